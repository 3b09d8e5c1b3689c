/- Texts of one hand, gathered: LaM, LaN, LaO, LaP, LaQ, LaR, LaS, LaT, LaU, LaV, LaW, Shelf, LaY, LaZ, LbA, LbB, LbC, LbD, LbE, LbF, LbG, LgA, LgB, LcA, LcB, LcC, LcD, LcG, LcH, PvEnd. -/
import Derived.Test.YtakfiahnhjnndaaGreatDoorDe3
import Derived.Shelf.Strings.Builder1
import Derived.Shelf.Strings.Builder2
import Derived.Shelf.Strings.OnBuilder
import Derived.Shelf.Small.Bits
import Derived.Shelf.Small.Strs
import Derived.Shelf.Strings.BuilderF
import Derived.Shelf.Strings.BuilderK
import Derived.Shelf.Strings.Builder2Cap
import Derived.Shelf.Strconv.Atoi
import Derived.Shelf.Strconv.Itoa0
import Derived.Shelf.Strconv.Itoa1
import Derived.Shelf.LaysM
import Derived.Shelf.Strconv.Itoa2
import Derived.Shelf.Strconv.Itoa3
import Derived.Shelf.Strconv.AtoiErrFast
import Derived.Shelf.Strconv.ParseIntEmpty
import Derived.Shelf.Strconv.AtoiFail
import Derived.Shelf.Strconv.Clone
import Derived.Shelf.Strconv.SyntaxError
import Derived.Shelf.LaysC
import Derived.Shelf.Strconv.ToError
import Derived.Shelf.Strconv.Lower
import Derived.Shelf.Strconv.ParseUint10
import Derived.Shelf.Strconv.ParseUint10Empty
import Derived.Shelf.Strconv.ParseUint10Any
import Derived.Shelf.Strconv.ParseInt10
import Derived.Shelf.Strconv.AtoiLong
import Derived.Shelf.Strconv.AtoiInnerAll
import Derived.Shelf.Strconv.RangeError
import Derived.Shelf.Strconv.ToErrorRange
import Derived.Shelf.Strconv.AtoiAll
import Derived.Shelf.Strings.Search1
import Derived.Shelf.Strings.Search2
import Derived.Shelf.Strings.Search3
import Derived.Shelf.Strings.Cut
import Derived.Shelf.Strings.Count
import Derived.Shelf.Strings.Shaped
import Derived.Shelf.Sort.Plain
import Derived.Shelf.Strings.Prefix
import Derived.Shelf.Strings.Split
import Derived.Shelf.Strings.SplitShaped
import Derived.Shelf.Unicode.DecodeSlow
import Derived.Shelf.Strings.BuilderCap
import Derived.Shelf.Slices.Turned
import Derived.Shelf.Slices.CompactS
import Derived.Shelf.Slices.Cells
import Derived.Shelf.Slices.In.SortNone
import Derived.Test.YtakfiahnhjnndaaGreatDoorProg
import Derived.Lib.AppendIntMem
set_option linter.unusedSectionVars false
set_option linter.unusedSimpArgs false
set_option linter.unusedVariables false
set_option linter.unnecessarySimpa false
set_option maxHeartbeats 2000000
namespace Go.Pv
attribute [local irreducible] PWP POps PQuiet PSem XThen XBlock RetPost InlPost
open Go.Proofs
theorem inl_end1O {L : Lay} {fn : Func} {K : (Nat → Nat × Option Cont) → PV → Prop} {s : St} {t : Nat} {v : PV} {e : Exit} (owns : List (Nat × Nat × Cont)) (he : e = .ret ∨ e = .normal) (h : fn.results.toList = [.tmp t]) (h1 : s.reg t = v) (ho : FitO s owns)
  (hk : ∀ s1 : St,K (s1.over [] owns).own v) : InlPost L fn (fun s' r => K s'.own r) e s := by
 have hk := hk s
 rw [Fit.over (l := []) ho] at hk
 rcases he with rfl | rfl <;>
 ·unfold InlPost
  refine ⟨[s.reg t],True ∧ True,by rw [h];rfl,⟨trivial,trivial⟩,?_⟩
  rw [h1];exact hk
theorem inl_end2O {L : Lay} {fn : Func} {K : (Nat → Nat × Option Cont) → PV → Prop} {s : St} {t1 t2 : Nat} {v1 v2 : PV} {e : Exit} (owns : List (Nat × Nat × Cont)) (he : e = .ret ∨ e = .normal) (h : fn.results.toList = [.tmp t1,.tmp t2]) (h1 : s.reg t1 = v1) (h2 : s.reg t2 = v2) (ho : FitO s owns)
  (hk : ∀ s1 : St,K (s1.over [] owns).own (.tup [v1,v2])) : InlPost L fn (fun s' r => K s'.own r) e s := by
 have hk := hk s
 rw [Fit.over (l := []) ho] at hk
 rcases he with rfl | rfl <;>
 ·unfold InlPost
  refine ⟨[s.reg t1,s.reg t2],True ∧ True ∧ True,by rw [h];rfl,⟨trivial,trivial,trivial⟩,?_⟩
  rw [h1,h2];exact hk
def bkRow (g1 g2 g3 g62 : Nat) (l : List SPost) : List PV := [.als 62 (g62 + l.length) 0 (l.map ePost).length,.mp 1 g1,.mp 2 g2,.mp 1003 g3]
def bkO (g1 g2 g3 g5 g62 : Nat) (l : List SPost) : List (Nat × Nat × Cont) :=
 [(1,g1,⟨142,0,ordR l,0⟩),(2,g2,⟨143,0,itmR l,0⟩),(5,g5,⟨146,4,[bkRow g1 g2 g3 g62 l],2⟩),(62,g62 + l.length,⟨23,9,l.map ePost,0⟩),(1003,g3,⟨144,0,gonR l,0⟩)]
set_option maxRecDepth 20000 in
theorem new_inl {K : St → Prop} {s : St} {d : Nat} {ty : TypeId} {pos : String} {af : Array Edge}
  (hK : ∀ (s1 : St) (g1 g2 g3 g5 : Nat),K (({ reg := s.reg,own := (s1.over [] [(1,g1,⟨142,0,[],0⟩),(2,g2,⟨143,0,[],0⟩),(3,g3,⟨144,0,[],0⟩),(5,g5,⟨146,4,[[.nil,.mp 1 g1,.mp 2 g2,.mp 3 g3]],2⟩)]).own } : St).putR d (.ptr 5 g5 0 0))) :
  Sm Tryz.prog lay.get s ⟨some d,.call ⟨.value (.func 73),#[],#[]⟩,ty,pos,af,none⟩ K := by
 refine sm_inline layOk rfl rfl Tryz.func73 rfl (by decide) rfl rfl ?_
 show PWP _ _ _ _ (callSt s [])
 repeat refine stq rfl ?_
 refine ps_run (o_mkmap rfl ?_)
 refine ps_run (o_mkmap rfl ?_)
 refine ps_run (o_mkmap rfl ?_)
 repeat refine stq rfl ?_
 refine inl_end1O (t := 0) (v := .ptr 5 ((s.own 5).1 + 1) 0 0) (K := fun o r => K (({ reg := s.reg,own := o } : St).putR d r)) [(1,(s.own 1).1 + 1,⟨142,0,[],0⟩),(2,(s.own 2).1 + 1,⟨143,0,[],0⟩),(3,(s.own 3).1 + 1,⟨144,0,[],0⟩),(5,(s.own 5).1 + 1,⟨146,4,[[.nil,.mp 1 ((s.own 1).1 + 1),.mp 2 ((s.own 2).1 + 1),.mp 3 ((s.own 3).1 + 1)]],2⟩)] (.inl rfl) ?_ ?_ ?_ fun s1 => hK s1 _ _ _ _
 ·rfl
 ·rfl
 ·exact ⟨rfl,rfl,rfl,rfl,trivial⟩
theorem clean_op (p : SPost) : (cleanP p).op = p.op ∧ (cleanP p).day = p.day := by
 have : ∀ (fs : List Fd) (o : SPost),(fs.foldl (fun o f => f.set p o) o).op = o.op ∧ (fs.foldl (fun o f => f.set p o) o).day = o.day := by
  intro fs
  induction fs with
  |nil => intro o;exact ⟨rfl,rfl⟩
  |cons f fs ih =>
   intro o
   rw [List.foldl_cons,(ih _).1,(ih _).2]
   cases f <;> exact ⟨rfl,rfl⟩
 exact this _ _
theorem mput_new {k v : PV} {rows : List (List PV)} (h : (mix k rows).isSome = false) : mput k v rows = rows ++ [[k,v]] := by
 rw [mput]
 cases hm : mix k rows with
 |none => rfl
 |some i => rw [hm] at h;cases h
theorem ord_none {l : List SPost} {nm : Str} (h : ¬ 0 < ordNo l nm) : (mix (.str nm) (ordR l)).isSome = false := by
 rw [(ordR_at l nm).2,← idx_nonneg]
 rw [ordNo] at h
 exact decide_eq_false (by omega)
theorem itm_none {l : List SPost} {o nm : Str} (h : ¬ 0 < itmNo l o nm) : (mix (.agg [.str o,.str nm]) (itmR l)).isSome = false := by
 rw [(itmR_at l o nm).2,← idx_nonneg]
 rw [itmNo] at h
 exact decide_eq_false (by omega)
theorem gon_none {l : List SPost} (hW : Wf l) {n : Int} {ks : List Int} (h : aimE l n ks = 0) : (mix (I n) (gonR l)).isSome = false := by
 rw [(gonR_at l n).2]
 have hb := aimE_zero h
 rw [aimE,if_neg (by simp [inside];omega)] at h
 split at h
 ·omega
 rw [standE,if_neg (by omega)] at h
 split at h
 ·rename_i hv
  rw [liveB_pos hW hb.1] at hv
  simpa using (Bool.and_eq_true_iff.1 hv).1
 ·omega
theorem bk_snoc (l : List SPost) (q : SPost) : ordR (l ++ [q]) = ordR l ++ (match ordK q with | some k => [[k,numV (0 + l.length)]] | none => []) ∧ itmR (l ++ [q]) = itmR l ++ (match itmK q with | some k => [[k,numV (0 + l.length)]] | none => []) ∧
  gonR (l ++ [q]) = gonR l ++ (match gonK q with | some k => [[k,.bool true]] | none => []) := ⟨mrows_snoc _ _ q l 0,mrows_snoc _ _ q l 0,mrows_snoc _ _ q l 0⟩
set_option maxRecDepth 20000 in
theorem post_inl {K : St → Prop} {s : St} {d g1 g2 g3 g5 g62 : Nat} {x y : Operand} {tys : Array TypeId} {ty : TypeId} {pos : String} {af : Array Edge} (l : List SPost) (hW : Wf l) (p : SPost) (hx : s.ev x = .ptr 5 g5 0 0) (hy : s.ev y = .agg (ePost p)) (ho : FitO s (bkO g1 g2 g3 g5 g62 l))
  (hno : ∀ s1 : St,refusalR l p ≠ 0 → K (({ reg := s.reg,own := (s1.over [] (bkO g1 g2 g3 g5 g62 l)).own } : St).putR d (.tup [I 0,I (refusalR l p)])))
  (hyes : ∀ s1 : St,refusalR l p = 0 → K (({ reg := s.reg,own := (s1.over [] (bkO g1 g2 g3 g5 g62 (l ++ [cleanP p]))).own } : St).putR d (.tup [I (l.length + 1),I 0]))) :
  Sm Tryz.prog lay.get s ⟨some d,.call ⟨.value (.func 46),#[x,y],tys⟩,ty,pos,af,none⟩ K := by
 have hl := hW.len
 have hll : ((l.map ePost).length : Int) = l.length := by simp
 have h36 := checkPost_ret p
 have h37 := refused_ret l hW p
 have h38 := cleared_ret p
 refine sm_inline layOk rfl rfl Tryz.func46 rfl (by decide) rfl rfl ?_
 show PWP _ _ _ _ (callSt s (([x,y] : List Operand).map s.ev ++ []))
 rw [show (([x,y] : List Operand).map s.ev ++ ([] : List PV)) = [.ptr 5 g5 0 0,.agg (ePost p)] by simp [hx,hy]]
 rw [show callSt s [.ptr 5 g5 0 0,.agg (ePost p)] = callSt (s.over [] (bkO g1 g2 g3 g5 g62 l)) [.ptr 5 g5 0 0,.agg (ePost p)] by rw [Fit.over (l := []) ho]]
 have nope : refusalR l p ≠ 0 → ∀ (st : St) (e : Exit),(e = .ret ∨ e = .normal) → st.reg 4 = I 0 → st.reg 5 = I (refusalR l p) → FitO st (bkO g1 g2 g3 g5 g62 l) → InlPost lay.get Tryz.f46 (fun s' r => K (({ reg := s.reg,own := s'.own } : St).putR d r)) e st := fun hr st e he h1 h2 h3 =>
  inl_end2O (K := fun o r => K (({ reg := s.reg,own := o } : St).putR d r)) _ he rfl h1 h2 h3 fun s1 => hno s1 hr
 clear ho hx hy
 ((repeat (first | refine ps_nil ?_ | refine pq_nil ?_ | refine x_norm ?_ | refine pw_seq ?_));refine pw_region ?_)
 refine ps_run (o_box rfl rfl rfl (by repeat' constructor) rfl ?_)
 generalize (s.own 3).1 + 1 = gg
 repeat refine stq rfl ?_
 refine qst rfl rfl (q_cp rfl h36 rfl rfl rfl) ?_
 repeat refine stq rfl ?_
 refine pw_cond rfl (fun h => ?_) (fun h => ?_)
 ·have hne : ¬ checkE p = 0 := by simpa using h
  have hr : refusalR l p = checkE p := by rw [refusalR,if_neg hne]
  repeat refine stq rfl ?_
  exact nope (by rw [hr];exact hne) _ _ (.inl rfl) rfl (by rw [hr];rfl) ⟨rfl,rfl,rfl,rfl,rfl,trivial⟩
 have hc0 : checkE p = 0 := by simpa using h
 rw [refusalR,if_pos hc0] at nope hno hyes
 clear h h36
 refine pw_skip ?_
 refine x_norm ?_
 refine pw_cutP (¬ 400 ≤ l.length ∧ ¬ (0 < l.length ∧ p.day < (entL l l.length).day)) [(0,.ptr 5 g5 0 0),(3,.ptr 3 gg 0 0)] ((3,gg,⟨23,9,[ePost p],2⟩) :: bkO g1 g2 g3 g5 g62 l) ?_ ?_
 ·repeat refine stq rfl ?_
  rw [hll]
  by_cases h4 : 400 ≤ l.length
  ·rw [if_pos h4] at nope
   refine pw_cond rfl (fun h => ?_) (fun h => ?_)
   ·repeat refine stq rfl ?_
    exact nope (by decide) _ _ (.inl rfl) rfl rfl ⟨rfl,rfl,rfl,rfl,rfl,trivial⟩
   ·exact absurd (of_decide_eq_false h) (by omega)
  rw [if_neg h4] at nope
  refine pw_cond rfl (fun h => ?_) (fun h => ?_)
  ·exact absurd (of_decide_eq_true h) (by omega)
  clear h
  have hwl : 0 < l.length → IntKind.wrap .i64 ((l.length : Int) - 1) = (l.length : Int) - 1 := fun h => wrap_i64 (by omega) (by omega)
  repeat refine stq rfl ?_
  refine pw_draw 25 [24,25,26,27,28,29,30,31,32,33,34,35,36,37,38,39,40,41,42,43,44,45,46,47,23] (by decide +kernel) ?_
  repeat refine stq rfl ?_
  rw [hll]
  (first|refine ps_split rfl rfl ?_ ?_|refine pq_split rfl rfl ?_ ?_|refine p3_split rfl rfl ?_ ?_)<;>intro h
  ·have hlp := of_decide_eq_true h
   have he := entL_at (l := l) (n := l.length) (by omega) (by omega)
   have hwl := hwl (by omega)
   have hrow : (l.map ePost)[0 + ((l.length : Int) - 1).toNat]? = some (ePost (entL l l.length)) := by rw [List.getElem?_map,Nat.zero_add,he];rfl
   repeat refine stq rfl ?_
   rw [hll,hwl]
   refine qst rfl rfl (q_idxA rfl rfl rfl rfl rfl rfl rfl (by omega) (by omega)) ?_
   repeat refine stq rfl ?_
   refine qst rfl rfl (q_ldp rfl rfl rfl hrow rfl) ?_
   repeat refine stq rfl ?_
   refine pw_cond rfl (fun h => ?_) (fun h => ?_)
   ·have hd := of_decide_eq_true h
    rw [if_pos ⟨by omega,hd⟩] at nope
    repeat refine stq rfl ?_
    exact nope (by decide) _ _ (.inl rfl) rfl rfl ⟨rfl,rfl,rfl,rfl,rfl,trivial⟩
   ·have hd := of_decide_eq_false h
    repeat refine stq rfl ?_
    exact ⟨⟨h4,fun hc => hd hc.2⟩,rfl,rfl,rfl,rfl,rfl,rfl,rfl,rfl,trivial⟩
  ·have hlp := of_decide_eq_false h
   repeat refine stq rfl ?_
   exact ⟨⟨h4,fun hc => hlp (by omega)⟩,rfl,rfl,rfl,rfl,rfl,rfl,rfl,rfl,trivial⟩
 rintro ⟨h4,hday⟩ s1
 rw [if_neg h4,if_neg hday] at nope hno hyes
 repeat refine stq rfl ?_
 refine qst rfl rfl (q_cp rfl h37 rfl rfl rfl) ?_
 repeat refine stq rfl ?_
 refine pw_cond rfl (fun h => ?_) (fun h => ?_)
 ·have hne : ¬ refE l p = 0 := by simpa using h
  repeat refine stq rfl ?_
  exact nope hne _ _ (.inl rfl) rfl rfl ⟨rfl,rfl,rfl,rfl,rfl,trivial⟩
 have hr0 : refE l p = 0 := by simpa using h
 clear h nope hno
 replace hyes := fun s1 => hyes s1 hr0
 have hsn := bk_snoc l (cleanP p)
 have hqo := clean_op p
 generalize hq : cleanP p = q at *
 refine pw_skip ?_
 refine x_norm ?_
 refine pw_cut [(0,.ptr 5 g5 0 0),(3,.ptr 3 gg 0 0)] [(1,g1,⟨142,0,ordR l,0⟩),(2,g2,⟨143,0,itmR l,0⟩),(3,gg,⟨23,9,[ePost p],2⟩),(5,g5,⟨146,4,[bkRow g1 g2 g3 g62 (l ++ [q])],2⟩),(62,g62 + (l ++ [q]).length,⟨23,9,(l ++ [q]).map ePost,0⟩),(1003,g3,⟨144,0,gonR l,0⟩)] ?_ ?_
 ·refine pw_draw3 [5,62] [2,3,4,8,9,10,11] (by decide +kernel) ?_
  repeat refine stq rfl ?_
  refine qst rfl rfl (q_cs rfl h38 rfl rfl) ?_
  repeat refine stq rfl ?_
  refine qst rfl rfl (q_slit rfl rfl rfl rfl rfl rfl rfl rfl rfl rfl (by repeat' constructor) rfl) ?_
  repeat refine stq rfl ?_
  refine z3e rfl rfl rfl (o_app 0 rfl rfl rfl rfl rfl rfl rfl rfl rfl rfl rfl (by repeat' constructor) (by intro row hr;first | (simp at hr;subst hr;rfl) | (simp at hr;obtain ⟨_,_,rfl⟩ := hr;rfl) | simp at hr) rfl rfl (by simp;omega) (by simp;omega) ⟨offz rfl,?_⟩)
  repeat refine stq rfl ?_
  refine ⟨rfl,rfl,rfl,rfl,rfl,?_,?_,rfl,trivial⟩
  ·refine Eq.trans (b := (g5,some (Cont.mk 146 4 [[.als 62 (g62 + l.length + 1) 0 (l.map ePost ++ [ePost q]).length,.mp 1 g1,.mp 2 g2,.mp 1003 g3]] 2))) rfl ?_
   rw [als_snoc ePost 62 g62 l q];rfl
  ·exact cont_snoc ePost g62 23 9 0 l q
 intro s2
 have hl2 : (((l ++ [q]).map ePost).length : Int) = l.length + 1 := by simp
 have fin : ∀ (st : St),st.reg 4 = I (l.length + 1) → st.reg 5 = I 0 → FitO st (bkO g1 g2 g3 g5 g62 (l ++ [q])) → InlPost lay.get Tryz.f46 (fun s' r => K (({ reg := s.reg,own := s'.own } : St).putR d r)) .ret st := fun st h1 h2 h3 =>
  inl_end2O (K := fun o r => K (({ reg := s.reg,own := o } : St).putR d r)) _ (.inl rfl) rfl h1 h2 h3 fun s1 => hyes s1
 rw [refE] at hr0
 by_cases h0 : p.op = 0
 ·rw [if_pos h0] at hr0
  have hz : ¬ 0 < ordNo l p.order := by intro hc;rw [if_pos hc] at hr0;omega
  have hqq : q.order = p.order := by rw [← hq,cleanP,h0];rfl
  have hput := mput_new (v := I (l.length + 1)) (ord_none hz)
  have e1 : ordR (l ++ [q]) = ordR l ++ [[.str p.order,I (l.length + 1)]] := by rw [hsn.1,ordK,hqo.1,if_pos h0,hqq];simp [numV]
  have e2 : itmR (l ++ [q]) = itmR l := by rw [hsn.2.1,itmK,hqo.1,if_neg (by omega)];simp
  have e3 : gonR (l ++ [q]) = gonR l := by rw [hsn.2.2,gonK,hqo.1,if_neg (by omega)];simp
  rw [← e1] at hput
  rw [bkO,e2,e3] at fin
  repeat refine stq rfl ?_
  rw [hl2]
  repeat (first|refine stq rfl ?_|refine pw_no rfl ?_|refine pw_yes rfl ?_)
  refine pw_draw 7 [74,75,76,77,78,79,80] (by decide +kernel) ?_
  repeat refine stq rfl ?_
  refine ps_run0 (o_msetG none 0 rfl rfl rfl rfl rfl rfl rfl rfl rfl rfl (ordR_keyed l) rfl rfl ?_)
  rw [show nrm 0 (I (l.length + 1)) = I (l.length + 1) from rfl,hput]
  repeat refine stq rfl ?_
  exact fin _ rfl rfl ⟨rfl,rfl,rfl,rfl,rfl,trivial⟩
 rw [if_neg h0] at hr0
 by_cases h1 : p.op = 1
 ·rw [if_pos h1] at hr0
  have hz : ¬ 0 < itmNo l p.order p.item := by
   intro hc;rw [if_pos hc] at hr0;split at hr0 <;> omega
  have hqq : q.order = p.order ∧ q.item = p.item := by rw [← hq,cleanP,h1];exact ⟨rfl,rfl⟩
  have hput := mput_new (v := I (l.length + 1)) (itm_none hz)
  have e1 : ordR (l ++ [q]) = ordR l := by rw [hsn.1,ordK,hqo.1,if_neg h0];simp
  have e2 : itmR (l ++ [q]) = itmR l ++ [[.agg [.str p.order,.str p.item],I (l.length + 1)]] := by rw [hsn.2.1,itmK,hqo.1,if_pos h1,hqq.1,hqq.2];simp [numV]
  have e3 : gonR (l ++ [q]) = gonR l := by rw [hsn.2.2,gonK,hqo.1,if_neg (by omega)];simp
  rw [← e2] at hput
  rw [bkO,e1,e3] at fin
  clear h0
  repeat refine stq rfl ?_
  rw [hl2]
  repeat (first|refine stq rfl ?_|refine pw_no rfl ?_|refine pw_yes rfl ?_)
  refine pw_draw 10 [83,84,85,86,87,88,89,90,91,92] (by decide +kernel) ?_
  repeat refine stq rfl ?_
  refine ps_run0 (o_msetG (some [.str,.str]) 0 rfl rfl rfl good72 rfl rfl rfl rfl rfl rfl (itmR_keyed l _) rfl rfl ?_)
  rw [show nrm 0 (I (l.length + 1)) = I (l.length + 1) from rfl]
  refine Eq.mp (congrArg (fun r => POps _ _ _ _ _ (St.setOwn _ 2 g2 (some ⟨143,0,r,0⟩))) hput.symm) ?_
  repeat refine stq rfl ?_
  exact fin _ rfl rfl ⟨rfl,rfl,rfl,rfl,rfl,trivial⟩
 rw [if_neg h1] at hr0
 by_cases h8 : p.op = 8
 ·rw [if_neg (by omega),if_neg (by omega),if_pos h8] at hr0
  have hqq : q.ref = p.ref := by rw [← hq,cleanP,h8];rfl
  have hput := mput_new (v := .bool true) (gon_none hW hr0)
  have e1 : ordR (l ++ [q]) = ordR l := by rw [hsn.1,ordK,hqo.1,if_neg h0];simp
  have e2 : itmR (l ++ [q]) = itmR l := by rw [hsn.2.1,itmK,hqo.1,if_neg h1];simp
  have e3 : gonR (l ++ [q]) = gonR l ++ [[I p.ref,.bool true]] := by rw [hsn.2.2,gonK,hqo.1,if_pos h8,hqq]
  rw [← e3] at hput
  rw [bkO,e1,e2] at fin
  clear h0 h1
  repeat refine stq rfl ?_
  rw [hl2]
  repeat (first|refine stq rfl ?_|refine pw_no rfl ?_|refine pw_yes rfl ?_)
  refine pw_draw 6 [95,96,97,98,99,100] (by decide +kernel) ?_
  repeat refine stq rfl ?_
  refine ps_run0 (o_msetG none 0 rfl rfl rfl rfl rfl rfl rfl rfl rfl rfl (gonR_keyed l) rfl rfl ?_)
  rw [show nrm 0 (.bool true) = .bool true from rfl,hput]
  repeat refine stq rfl ?_
  exact fin _ rfl rfl ⟨rfl,rfl,rfl,rfl,rfl,trivial⟩
 have e1 : ordR (l ++ [q]) = ordR l := by rw [hsn.1,ordK,hqo.1,if_neg h0];simp
 have e2 : itmR (l ++ [q]) = itmR l := by rw [hsn.2.1,itmK,hqo.1,if_neg h1];simp
 have e3 : gonR (l ++ [q]) = gonR l := by rw [hsn.2.2,gonK,hqo.1,if_neg h8];simp
 rw [bkO,e1,e2,e3] at fin
 repeat refine stq rfl ?_
 rw [hl2]
 repeat (first|refine stq rfl ?_|refine pw_no rfl ?_|refine pw_yes rfl ?_)
 exact fin _ rfl rfl ⟨rfl,rfl,rfl,rfl,rfl,trivial⟩
end Go.Pv


set_option maxHeartbeats 2000000
namespace Go.Pv
attribute [local irreducible] PWP POps PQuiet PSem XThen XBlock RetPost InlPost
open Go.Proofs
inductive Acc : List SPost → Prop
 |nil : Acc []
 |snoc {l : List SPost} {p : SPost} (h : Acc l) (hr : refusalR l p = 0) : Acc (l ++ [cleanP p])
theorem idx_append {α : Type} (l : List α) (q : α) (p : α → Bool) : idx (l ++ [q]) p = if 0 ≤ idx l p then idx l p else if p q = true then l.length else -1 := by
 unfold idx
 rw [List.findIdx?_append]
 cases h : l.findIdx? p with
 |some i => simp
 |none =>
  cases hq : p q <;> simp [List.findIdx?_cons,hq]
theorem ordNo_snoc {l : List SPost} {nm : Str} (q : SPost) (h : 1 ≤ ordNo l nm) : ordNo (l ++ [q]) nm = ordNo l nm := by
 rw [ordNo] at *
 rw [idx_append,if_pos (by omega),ordNo]
theorem itmNo_snoc {l : List SPost} {o nm : Str} (q : SPost) (h : 1 ≤ itmNo l o nm) : itmNo (l ++ [q]) o nm = itmNo l o nm := by
 rw [itmNo] at *
 rw [idx_append,if_pos (by omega),itmNo]
theorem clean_order {p : SPost} (h : p.op = 0 ∨ p.op = 1 ∨ p.op = 2 ∨ p.op = 3 ∨ p.op = 6 ∨ p.op = 7) : (cleanP p).order = p.order := by
 rcases h with h | h | h | h | h | h <;> rw [cleanP,h] <;> rfl
theorem clean_item {p : SPost} (h : p.op = 1 ∨ p.op = 2 ∨ p.op = 3) : (cleanP p).item = p.item := by
 rcases h with h | h | h <;> rw [cleanP,h] <;> rfl
theorem cleanP_ref {p : SPost} (h : p.op = 4 ∨ p.op = 5 ∨ p.op = 8) : (cleanP p).ref = p.ref := by
 rcases h with h | h | h <;> rw [cleanP,h] <;> rfl
theorem cleanP_ref0 {p : SPost} (h : p.op = 0 ∨ p.op = 1 ∨ p.op = 2 ∨ p.op = 3 ∨ p.op = 6 ∨ p.op = 7) : (cleanP p).ref = 0 := by
 rcases h with h | h | h | h | h | h <;> rw [cleanP,h] <;> rfl
theorem standE_zero {l : List SPost} {n : Int} (h : standE l n = 0) : n ≠ 0 ∧ liveB l n = true := by
 rw [standE] at h
 split at h
 ·omega
 ·split at h
  ·exact ⟨by assumption,by assumption⟩
  ·omega
theorem refusalR_zero {l : List SPost} {p : SPost} (h : refusalR l p = 0) : checkE p = 0 ∧ l.length < 400 ∧ ¬ (0 < l.length ∧ p.day < (entL l l.length).day) ∧ refE l p = 0 := by
 rw [refusalR] at h
 split at h
 ·rename_i hc
  split at h
  ·omega
  ·split at h
   ·omega
   ·exact ⟨hc,by omega,by assumption,h⟩
 ·contradiction
theorem refE_zero {l : List SPost} {p : SPost} (h : refE l p = 0) : (p.op = 0 → ordNo l p.order = 0) ∧ ((p.op = 1 ∨ p.op = 6 ∨ p.op = 7) → 1 ≤ ordNo l p.order ∧ liveB l (ordNo l p.order) = true) ∧ (p.op = 1 → itmNo l p.order p.item = 0) ∧
  ((p.op = 2 ∨ p.op = 3) → 1 ≤ itmNo l p.order p.item ∧ liveB l (itmNo l p.order p.item) = true) ∧ ((p.op = 4 ∨ p.op = 5 ∨ p.op = 8) → 1 ≤ p.ref ∧ p.ref ≤ l.length ∧ liveB l p.ref = true) := by
 have hob := ordNo_le l p.order
 have hib := itmNo_le l p.order p.item
 have aim : ∀ ks,aimE l p.ref ks = 0 → 1 ≤ p.ref ∧ p.ref ≤ l.length ∧ liveB l p.ref = true := fun ks h => by
  have hb := aimE_zero h
  rw [aimE,if_neg (by simp [inside];omega)] at h
  split at h
  ·omega
  ·exact ⟨hb.1,hb.2,(standE_zero h).2⟩
 rw [refE] at h
 by_cases h0 : p.op = 0
 ·rw [if_pos h0] at h
  exact ⟨fun _ => by split at h <;> omega,fun h' => by omega,fun h' => by omega,fun h' => by omega,fun h' => by omega⟩
 rw [if_neg h0] at h
 by_cases h1 : p.op = 1
 ·rw [if_pos h1] at h
  by_cases hs : standE l (ordNo l p.order) = 0
  ·rw [if_pos hs] at h
   have := standE_zero hs
   exact ⟨fun h' => by omega,fun _ => ⟨by omega,this.2⟩,fun _ => by split at h <;> omega,fun h' => by omega,fun h' => by omega⟩
  ·rw [if_neg hs] at h;omega
 rw [if_neg h1] at h
 by_cases h4 : p.op = 4
 ·rw [if_pos h4] at h
  by_cases hs : aimE l p.ref [2,3] = 0
  ·exact ⟨fun h' => by omega,fun h' => by omega,fun h' => by omega,fun h' => by omega,fun _ => aim _ hs⟩
  ·rw [if_neg hs] at h;omega
 rw [if_neg h4] at h
 by_cases h5 : p.op = 5
 ·rw [if_pos h5] at h
  by_cases hs : aimE l p.ref [1,2,3] = 0
  ·exact ⟨fun h' => by omega,fun h' => by omega,fun h' => by omega,fun h' => by omega,fun _ => aim _ hs⟩
  ·rw [if_neg hs] at h;omega
 rw [if_neg h5] at h
 by_cases h8 : p.op = 8
 ·rw [if_pos h8] at h
  exact ⟨fun h' => by omega,fun h' => by omega,fun h' => by omega,fun h' => by omega,fun _ => aim _ h⟩
 rw [if_neg h8] at h
 have hs := standE_zero h
 refine ⟨fun h' => by omega,fun h' => ?_,fun h' => by omega,fun h' => ?_,fun h' => by omega⟩
 ·have : supNo l p = ordNo l p.order := by rw [supNo,if_pos h']
  rw [this] at hs
  exact ⟨by omega,hs.2⟩
 ·have : supNo l p = itmNo l p.order p.item := by rw [supNo,if_neg (by omega),if_pos h']
  rw [this] at hs
  exact ⟨by omega,hs.2⟩
structure Ok (l : List SPost) : Prop where
 wf : Wf l
 ops : ∀ (i : Nat) p,l[i]? = some p → 0 ≤ p.op ∧ p.op ≤ 8
 pos : ∀ (i : Nat) p,l[i]? = some p → (p.op = 1 ∨ p.op = 6 ∨ p.op = 7 → 1 ≤ ordNo l p.order) ∧ (p.op = 2 ∨ p.op = 3 → 1 ≤ itmNo l p.order p.item) ∧ (p.op = 4 ∨ p.op = 5 ∨ p.op = 8 → 1 ≤ p.ref ∧ p.ref ≤ i) ∧ (¬ (p.op = 4 ∨ p.op = 5 ∨ p.op = 8) → p.ref = 0)
theorem snoc_get {α : Type} {l : List α} {q x : α} {i : Nat} (h : (l ++ [q])[i]? = some x) : (i < l.length ∧ l[i]? = some x) ∨ (i = l.length ∧ x = q) := by
 rcases Nat.lt_trichotomy i l.length with hlt | heq | hgt
 ·rw [List.getElem?_append_left hlt] at h;exact .inl ⟨hlt,h⟩
 ·subst heq;simp at h;exact .inr ⟨rfl,h.symm⟩
 ·rw [List.getElem?_eq_none (by simp;omega)] at h;cases h
theorem Ok.sup_snoc {l : List SPost} (h : Ok l) (q : SPost) {i : Nat} {p : SPost} (hp : l[i]? = some p) : supNo (l ++ [q]) p = supNo l p := by
 have := h.pos i p hp
 simp only [supNo]
 split
 ·rename_i h1;exact ordNo_snoc q (this.1 h1)
 ·split
  ·rename_i h2;exact itmNo_snoc q (this.2.1 h2)
  ·rfl
theorem Ok.snoc {l : List SPost} (h : Ok l) {p : SPost} (hr : refusalR l p = 0) : Ok (l ++ [cleanP p]) := by
 obtain ⟨c1,c2,c3,c4⟩ := refusalR_zero hr
 obtain ⟨r0,r1,r2,r3,r4⟩ := refE_zero c4
 have hop := op_cases (checkE_op c1).1
 have hqo := (clean_op p).1
 have hob := ordNo_le l p.order
 have hib := itmNo_le l p.order p.item
 have hnew : (p.op = 1 ∨ p.op = 6 ∨ p.op = 7 → ordNo (l ++ [cleanP p]) (cleanP p).order = ordNo l p.order) := fun h' => by
  rw [clean_order (by omega),ordNo_snoc _ (r1 h').1]
 have hnew2 : (p.op = 2 ∨ p.op = 3 → itmNo (l ++ [cleanP p]) (cleanP p).order (cleanP p).item = itmNo l p.order p.item) := fun h' => by
  rw [clean_order (by omega),clean_item (by omega),itmNo_snoc _ (r3 h').1]
 refine ⟨⟨fun i x hx => ?_,by simp;omega⟩,fun i x hx => ?_,fun i x hx => ?_⟩
 ·rcases snoc_get hx with ⟨hi,hx⟩ | ⟨rfl,rfl⟩
  ·rw [h.sup_snoc _ hx];exact h.wf.sup i x hx
  ·simp only [supNo,hqo]
   split
   ·rename_i h';rw [hnew h'];have := r1 h';omega
   ·split
    ·rename_i h';rw [hnew2 h'];have := r3 h';omega
    ·split
     ·rename_i h';rw [cleanP_ref (by omega)];have := r4 (by omega);omega
     ·omega
 ·rcases snoc_get hx with ⟨hi,hx⟩ | ⟨rfl,rfl⟩
  ·exact h.ops i x hx
  ·rw [hqo];omega
 ·rcases snoc_get hx with ⟨hi,hx⟩ | ⟨rfl,rfl⟩
  ·have := h.pos i x hx
   exact ⟨fun h' => by rw [ordNo_snoc _ (this.1 h')];exact this.1 h',fun h' => by rw [itmNo_snoc _ (this.2.1 h')];exact this.2.1 h',this.2.2⟩
  ·rw [hqo]
   exact ⟨fun h' => by rw [hnew h'];exact (r1 h').1,fun h' => by rw [hnew2 h'];exact (r3 h').1,fun h' => by rw [cleanP_ref h'];have := r4 h';omega,fun h' => cleanP_ref0 (by omega)⟩
theorem Acc.ok {l : List SPost} (h : Acc l) : Ok l := by
 induction h with
 |nil => exact ⟨⟨fun i p h => by simp at h,by simp⟩,fun i p h => by simp at h,fun i p h => by simp at h⟩
 |snoc _ hr ih => exact ih.snoc hr
def fstN {α : Type} : List α → (Nat → α → Int) → Nat
 |[],_ => 0
 |a :: l,f => if f 0 a = 0 then fstN l (fun i => f (i + 1)) + 1 else 0
theorem fstN_found {α : Type} : ∀ {l : List α} {f : Nat → α → Int} {i : Nat} {a : α},l[i]? = some a → f i a ≠ 0 → (∀ j b,j < i → l[j]? = some b → f j b = 0) → fstN l f = i
 |[],f,i,a,h,_,_ => by simp at h
 |b :: l,f,0,a,h,he,_ => by
  simp at h;subst h
  simp [fstN,he]
 |b :: l,f,i + 1,a,h,he,hn => by
  have h0 := hn 0 b (by omega) rfl
  rw [fstN,if_pos h0]
  rw [fstN_found (f := fun i => f (i + 1)) (i := i) (by simpa using h) he fun j c hj hc => hn (j + 1) c (by omega) (by simpa using hc)]
theorem fstN_none {α : Type} : ∀ {l : List α} {f : Nat → α → Int},(∀ (j : Nat) b,l[j]? = some b → f j b = 0) → fstN l f = l.length
 |[],f,_ => rfl
 |b :: l,f,hn => by
  rw [fstN,if_pos (hn 0 b rfl),fstN_none fun j c hc => hn (j + 1) c (by simpa using hc)];rfl
def lodF (l : List SPost) (j : Nat) (p : SPost) : Int := refusalR ((l.take j).map cleanP) p
def lodN (l : List SPost) : Nat := fstN l (lodF l)
def lodE (l : List SPost) : Int := fstE l (lodF l)
def lodL (l : List SPost) : List SPost := (l.take (lodN l)).map cleanP
theorem lod_acc {l : List SPost} : ∀ {k : Nat},ClearE l (lodF l) k → Acc ((l.take k).map cleanP)
 |0,_ => by simpa using Acc.nil
 |k + 1,h => by
  have hk := h.1
  obtain ⟨x,hx⟩ := get_lt (show k < l.length by omega)
  have ih : Acc ((l.take k).map cleanP) := lod_acc ⟨by omega,fun j b hj hb => h.2 j b (by omega) hb⟩
  have hr := h.2 k x (by omega) hx
  rw [take_snoc hx,List.map_append]
  exact ih.snoc hr
end Go.Pv


set_option maxHeartbeats 2000000
namespace Go.Pv
attribute [local irreducible] PWP POps PQuiet PSem XThen XBlock RetPost InlPost
open Go.Proofs
section
variable {L : Lay} {s : St} {fn : Func} {r : PV}
theorem end3f {t1 t2 t3 : Nat} {v1 d1 : PV} {C1 : Prop} {b1 : Bool} {k2 k3 : IntKind} {n2 n3 : Int} (h : fn.results.toList = [.tmp t1,.tmp t2,.tmp t3]) (h1 : (s.reg t1).fz = some v1) (h2 : s.reg t2 = .int k2 n2) (h3 : s.reg t3 = .int k3 n3) (r1 : res s 4 v1 = some (d1,C1,⟨b1,true⟩)) (c1 : C1)
  (hd : PV.tup [d1,.int k2 n2,.int k3 n3] = r) : RetPost L fn .fresh r .ret s := by
 rw [PV.fz_eq] at h1
 have h1 := Option.some.inj h1
 subst h1
 unfold RetPost
 refine ⟨[s.reg t1,s.reg t2,s.reg t3],True ∧ True ∧ True ∧ True,.tup [d1,.int k2 n2,.int k3 n3],C1 ∧ True ∧ True ∧ True,(⟨b1,true⟩ : Fl).and ((⟨true,true⟩ : Fl).and ((⟨true,true⟩ : Fl).and ⟨true,true⟩)),by rw [h];rfl,⟨trivial,trivial,trivial,trivial⟩,?_,⟨c1,trivial,trivial,trivial⟩,rfl,hd⟩
 show (match resL (res s 4) [s.reg t1,s.reg t2,s.reg t3] with | some (ds,C1,b) => some (PV.tup ds,C1,b) | none => none) = _
 rw [h2,h3]
 have q : ∀ (k : IntKind) (n : Int),res s 4 (.int k n) = some (.int k n,True,⟨true,true⟩) := fun k n => rfl
 simp only [resL,r1,q]
end
set_option maxRecDepth 20000 in
theorem load_ret (l : List SPost) (hl : l.length ≤ 1000000) : Ret Tryz.prog .fresh 53 [.sl (l.map ePost)] (.tup [.dref (eBook (lodL l)) 0,I (lodN l),I (lodE l)]) := by
 have hll : ((l.map ePost).length : Int) = l.length := by simp
 refine Ret.of_pwp layOk mixed Go.Proofs.Tryz.func53 rfl (by decide) rfl rfl ?_
 ((repeat (first | refine ps_nil ?_ | refine pq_nil ?_ | refine x_norm ?_ | refine pw_seq ?_));refine pw_region ?_)
 refine ps_v rfl trivial ?_
 refine ps_v rfl trivial ?_
 refine ps_v rfl trivial ?_
 refine ps_nil ?_
 ((repeat (first | refine x_norm ?_ | refine pw_seq ?_));refine pw_regionS 0 ?_)
 refine ps_nil ?_
 refine psem_sm rfl (new_inl fun s1 g1 g2 g3 g5 => ?_)
 refine psem_ops ?_
 refine ps_v rfl trivial ?_
 refine ps_nil ?_
 refine x_norm ?_
 refine pw_ghost (Ghost.moveC (k := 3) (k' := 1003) (k0 := 5) (i := 0) (j := 3) rfl rfl rfl rfl rfl rfl rfl rfl rfl rfl) ?_
 refine pw_ghost (Ghost.nilcell (k := 62) (k0 := 5) (i := 0) (j := 0) 23 9 0 rfl rfl rfl rfl rfl rfl rfl) ?_
 repeat refine stq rfl ?_
 rw [hll]
 refine pw_loop (ClearE l (lodF l)) (fun k => [(0,.sl (l.map ePost)),(5,.ptr 5 g5 0 0),(11,.sl (l.map ePost)),(12,I l.length),(13,I k)]) (fun k => bkO g1 g2 ((s1.own 1003).1 + 1) g5 ((s1.own 62).1 + 1) ((l.take k).map cleanP)) (fun k => l.length - k) 0 .zero' ⟨rfl,rfl,rfl,rfl,rfl,rfl,rfl,rfl,rfl,rfl,trivial⟩ ?_
 generalize (s1.own 1003).1 + 1 = g13
 generalize (s1.own 62).1 + 1 = g62
 intro k s hk
 have hkl := hk.1
 have hW := (lod_acc hk).ok.wf
 repeat refine stq rfl ?_
 refine pw_cond rfl (fun h => ?_) (fun h => ?_)
 ·have hlt : k < l.length := by have := of_decide_eq_true h;omega
  clear h
  obtain ⟨x,hx⟩ := get_lt hlt
  repeat refine stq rfl ?_
  refine qst rfl rfl (q_idxm rfl rfl rfl rfl rfl (by omega) hx rfl) ?_
  iterate 4 refine stq rfl ?_
  refine ps_nil ?_
  ((repeat (first | refine x_norm ?_ | refine pw_seq ?_));refine pw_regionS 2 ?_)
  refine ps_v rfl trivial ?_
  refine ps_v rfl rfl ?_
  refine ps_nil ?_
  refine psem_sm rfl (post_inl (g1 := g1) (g2 := g2) (g3 := g13) (g5 := g5) (g62 := g62) ((l.take k).map cleanP) hW x rfl rfl ⟨rfl,rfl,rfl,rfl,rfl,trivial⟩ (fun s2 hne => ?_) (fun s2 h0 => ?_))
  ·have hne' : lodF l k x ≠ 0 := hne
   have e1 : lodN l = k := fstN_found hx hne' hk.2
   have e2 : lodE l = refusalR ((l.take k).map cleanP) x := hk.found hx rfl hne'
   rw [lodL,e1,e2]
   refine psem_ops ?_
   repeat refine stq rfl ?_
   refine pw_cond rfl (fun h => ?_) (fun h => ?_)
   ·repeat refine stq rfl ?_
    exact end3f rfl rfl rfl rfl rfl (by repeat' constructor) rfl
   ·exact absurd (by simpa using h) hne
  ·refine psem_ops ?_
   have hn := hk.succ hx h0
   have htk : (l.take (k + 1)).map cleanP = (l.take k).map cleanP ++ [cleanP x] := by rw [take_snoc hx,List.map_append];rfl
   repeat refine stq rfl ?_
   refine ⟨k + 1,hn,by omega,?_⟩
   rw [htk]
   exact ⟨rfl,rfl,rfl,rfl,i64_next (by omega) (by omega),rfl,rfl,rfl,rfl,rfl,trivial⟩
 ·have hf : ¬ k < l.length := by have := of_decide_eq_false h;omega
  have hz : k = l.length := by omega
  subst hz
  have e1 : lodN l = l.length := fstN_none fun j b hb => hk.2 j b (List.getElem?_eq_some_iff.1 hb).1 hb
  have e2 : lodE l = 0 := hk.none hf
  rw [lodL,e1,e2]
  repeat refine stq rfl ?_
  exact end3f rfl rfl rfl rfl rfl (by repeat' constructor) (by rw [hll];rfl)
end Go.Pv


set_option maxHeartbeats 2000000
namespace Go.Pv
attribute [local irreducible] PWP POps PQuiet PSem XThen XBlock RetPost InlPost
open Go.Proofs
def ofB (l : List SPost) (op n i : Int) : Bool := decide ((entL l i).op = op) && decide ((entL l i).ref = n) && liveB l i
def latF (l : List SPost) (n : Int) : Nat → Int
 |0 => 0
 |i + 1 => if ofB l 5 n (i + 1) = true then i + 1 else latF l n i
def sigF (l : List SPost) (n : Int) : Nat → List Int
 |0 => []
 |i + 1 => if ofB l 4 n (i + 1) = true then sigF l n i ++ [(i : Int) + 1] else if ofB l 5 n (i + 1) = true then [] else sigF l n i
theorem ofB_late {l : List SPost} (h : Ok l) {op n i : Int} (ho : op = 4 ∨ op = 5) (h1 : 1 ≤ i) (h2 : i ≤ l.length) (hb : ofB l op n i = true) : n < i := by
 simp only [ofB,Bool.and_eq_true,decide_eq_true_eq] at hb
 have := (h.pos _ _ (entL_at h1 h2)).2.2.1 (by omega)
 omega
theorem latF_early {l : List SPost} (h : Ok l) {n : Int} : ∀ (i : Nat),(i : Int) ≤ n → i ≤ l.length → latF l n i = 0
 |0,_,_ => rfl
 |i + 1,h1,h2 => by
  have : ¬ ofB l 5 n (i + 1) = true := fun hb => by have := ofB_late h (.inr rfl) (by omega) (by omega) hb;omega
  rw [latF,if_neg this,latF_early h i (by omega) (by omega)]
theorem sigF_early {l : List SPost} (h : Ok l) {n : Int} : ∀ (i : Nat),(i : Int) ≤ n → i ≤ l.length → sigF l n i = []
 |0,_,_ => rfl
 |i + 1,h1,h2 => by
  have h4 : ¬ ofB l 4 n (i + 1) = true := fun hb => by have := ofB_late h (.inl rfl) (by omega) (by omega) hb;omega
  rw [sigF,if_neg h4,sigF_early h i (by omega) (by omega)]
  split <;> rfl
theorem latF_bounds (l : List SPost) (n : Int) : ∀ (i : Nat),0 ≤ latF l n i ∧ latF l n i ≤ i
 |0 => by simp [latF]
 |i + 1 => by
  have := latF_bounds l n i
  rw [latF]
  split <;> omega
theorem latF_last {l : List SPost} {n : Int} : ∀ {i : Nat} {j : Int},latF l n i < j → j ≤ i → 1 ≤ j → ofB l 5 n j = false
 |0,j,h1,h2,h3 => by omega
 |i + 1,j,h1,h2,h3 => by
  rw [latF] at h1
  split at h1
  ·omega
  ·rename_i hb
   by_cases hj : j = i + 1
   ·subst hj;simpa using hb
   ·exact latF_last h1 (by omega) h3
theorem sigF_lat {l : List SPost} {n : Int} : ∀ {i : Nat},latF l n i = 0 ∨ sigF l n (latF l n i).toNat = []
 |0 => .inl rfl
 |i + 1 => by
  rw [latF]
  split
  ·rename_i hb
   right
   rw [show ((i : Int) + 1).toNat = i + 1 by omega,sigF,if_pos hb]
   have : ¬ ofB l 4 n (i + 1) = true := fun h4 => by
    simp only [ofB,Bool.and_eq_true,decide_eq_true_eq] at hb h4
    omega
   rw [if_neg this]
  ·exact sigF_lat
theorem sigF_from {l : List SPost} (h : Ok l) {n : Int} {b : Nat} (hb : b ≤ l.length) (hn : 0 ≤ n) (hnb : n ≤ b) : sigF l n (max n (latF l n b)).toNat = [] := by
 have hlb := latF_bounds l n b
 by_cases hm : latF l n b ≤ n
 ·rw [show max n (latF l n b) = n by omega]
  exact sigF_early h _ (by omega) (by omega)
 ·rw [show max n (latF l n b) = latF l n b by omega]
  rcases sigF_lat (l := l) (n := n) (i := b) with h0 | h0
  ·omega
  ·exact h0
theorem sigF_len (l : List SPost) (n : Int) : ∀ i,(sigF l n i).length ≤ i
 |0 => by simp [sigF]
 |i + 1 => by
  have := sigF_len l n i
  rw [sigF]
  split
  ·simp;omega
  ·split <;> simp;omega
theorem latest_ret (l : List SPost) (h : Ok l) (n : Int) (b : Nat) (hn : 1 ≤ n) (hnb : n ≤ b) (hb : b ≤ l.length) : Ret Tryz.prog .shared 148 [.dref (eBook l) 0,I n,I (b + 1)] (I (latF l n b)) := by
 have hl := h.wf.len
 have hw : IntKind.wrap .i64 ((b : Int) + 1 - 1) = b := by rw [wrap_i64 (by omega) (by omega)];omega
 refine Ret.of_pwp layOk mixed Go.Proofs.Tryz.func148 rfl (by decide) rfl rfl ?_
 repeat refine stq rfl ?_
 rw [hw]
 refine pw_loop (fun i : Nat => i ≤ b ∧ n ≤ i ∧ latF l n i = latF l n b) (fun i => [(0,.dref (eBook l) 0),(1,I n),(7,I i)]) (fun _ => []) (fun i => i) b ⟨Nat.le_refl _,hnb,rfl⟩ ⟨rfl,rfl,rfl,trivial⟩ ?_
 intro i s hi
 repeat refine stq rfl ?_
 refine pw_cond rfl (fun h => ?_) (fun h => ?_)
 ·have hlt : n < i := of_decide_eq_true h
  clear h
  obtain ⟨j,rfl⟩ : ∃ j,i = j + 1 := ⟨i - 1,by omega⟩
  have he := entry_ret l (j + 1 : Nat) (by omega) (by omega) hl
  have hv := live_ret l ‹Ok l›.wf (j + 1 : Nat) (by omega)
  have hs : latF l n (j + 1) = if ofB l 5 n (j + 1 : Nat) = true then ((j + 1 : Nat) : Int) else latF l n j := rfl
  have hw1 : IntKind.wrap .i64 (((j + 1 : Nat) : Int) - 1) = j := by rw [wrap_i64 (by omega) (by omega)];omega
  rw [ofB] at hs
  repeat refine stq rfl ?_
  refine qst rfl rfl (q_cs rfl he rfl rfl) ?_
  repeat refine stq rfl ?_
  generalize entL l (j + 1 : Nat) = p at *
  (first|refine ps_split rfl rfl ?_ ?_|refine pq_split rfl rfl ?_ ?_|refine p3_split rfl rfl ?_ ?_)<;>intro h
  ·have g1 := of_decide_eq_true h
   clear h
   repeat refine stq rfl ?_
   (first|refine ps_split rfl rfl ?_ ?_|refine pq_split rfl rfl ?_ ?_|refine p3_split rfl rfl ?_ ?_)<;>intro h
   ·have g2 := of_decide_eq_true h
    clear h
    rw [g1,g2,decide_eq_true rfl,decide_eq_true rfl,Bool.true_and,Bool.true_and] at hs
    generalize liveB l (j + 1 : Nat) = lv at *
    repeat refine stq rfl ?_
    refine qst rfl rfl (q_cp rfl hv rfl rfl rfl) ?_
    repeat refine stq rfl ?_
    cases lv with
    |true =>
     repeat refine stq rfl ?_
     exact end1i rfl rfl (by rw [← hi.2.2,hs];rfl)
    |false =>
     repeat refine stq rfl ?_
     refine ⟨j,⟨by omega,by omega,by rw [← hi.2.2,hs];rfl⟩,by omega,rfl,rfl,?_,trivial⟩
     exact congrArg I hw1
   ·have g2 := of_decide_eq_false h
    rw [decide_eq_false g2,Bool.and_false,Bool.false_and] at hs
    repeat refine stq rfl ?_
    refine ⟨j,⟨by omega,by omega,by rw [← hi.2.2,hs];rfl⟩,by omega,rfl,rfl,?_,trivial⟩
    exact congrArg I hw1
  ·have g1 := of_decide_eq_false h
   rw [decide_eq_false g1,Bool.false_and,Bool.false_and] at hs
   repeat refine stq rfl ?_
   refine ⟨j,⟨by omega,by omega,by rw [← hi.2.2,hs];rfl⟩,by omega,rfl,rfl,?_,trivial⟩
   exact congrArg I hw1
 ·have hz : ¬ n < i := of_decide_eq_false h
  have : latF l n i = 0 := latF_early ‹Ok l› i (by omega) (by omega)
  repeat refine stq rfl ?_
  exact end1i rfl rfl (by rw [← hi.2.2,this])
end Go.Pv


set_option maxHeartbeats 2000000
namespace Go.Pv
attribute [local irreducible] PWP POps PQuiet PSem XThen XBlock RetPost InlPost
open Go.Proofs
set_option maxRecDepth 20000 in
theorem signatures_ret (l : List SPost) (hO : Ok l) (n : Int) (b : Nat) (hn : 1 ≤ n) (hnb : n ≤ b) (hb : b ≤ l.length) : Ret Tryz.prog .fresh 110 [.dref (eBook l) 0,I n,I (b + 1)] (.sl ((sigF l n b).map eI)) := by
 have hl := hO.wf.len
 have hlt := latest_ret l hO n b hn hnb hb
 have hlb := latF_bounds l n b
 have h0 := sigF_from hO hb (by omega) hnb
 have hlast := fun (j : Int) => latF_last (l := l) (n := n) (i := b) (j := j)
 obtain ⟨m,hm⟩ : ∃ m : Nat,(m : Int) = max n (latF l n b) := ⟨(max n (latF l n b)).toNat,by omega⟩
 rw [← hm,Int.toNat_natCast] at h0
 have hmx : (if n < latF l n b then latF l n b else n) = m := by rw [hm];split <;> omega
 have hmb : m ≤ b := by omega
 have hml : latF l n b ≤ m := by omega
 have hw : IntKind.wrap .i64 ((m : Int) + 1) = m + 1 := wrap_i64 (by omega) (by omega)
 generalize latF l n b = lt at *
 refine Ret.of_pwp layOk mixed Go.Proofs.Tryz.func110 rfl (by decide) rfl rfl ?_
 ((repeat (first | refine ps_nil ?_ | refine pq_nil ?_ | refine x_norm ?_ | refine pw_seq ?_));refine pw_region ?_)
 refine ps_v rfl trivial ?_
 ((repeat (first | refine ps_nil ?_ | refine pq_nil ?_ | refine x_norm ?_ | refine pw_seq ?_));refine pw_region ?_)
 refine ps_v rfl trivial ?_
 refine ps_nil ?_
 refine x_norm ?_
 refine pw_ghost (Ghost.nilreg (k := 7) (t := 7) 3 1 0 rfl rfl) ?_
 repeat refine stq rfl ?_
 refine qst rfl rfl (q_cp rfl hlt rfl rfl rfl) ?_
 repeat refine stq rfl ?_
 rw [hmx,hw]
 refine pw_loop (fun j : Nat => m ≤ j ∧ j ≤ b) (fun j => [(0,.dref (eBook l) 0),(1,I n),(2,I (b + 1)),(7,.als 7 (1 + (sigF l n j).length) 0 ((sigF l n j).map eI).length),(8,I (j + 1))]) (fun j => [(7,1 + (sigF l n j).length,⟨3,1,(sigF l n j).map eI,0⟩)]) (fun j => b - j) m ⟨Nat.le_refl _,hmb⟩ ?_ ?_
 ·rw [h0];exact ⟨rfl,rfl,rfl,rfl,rfl,rfl,trivial⟩
 intro j s hj
 repeat refine stq rfl ?_
 refine pw_cond rfl (fun h => ?_) (fun h => ?_)
 ·have hjb : j < b := by have := of_decide_eq_true h;omega
  clear h
  have he := entry_ret l ((j : Int) + 1) (by omega) (by omega) hl
  have hv := live_ret l hO.wf ((j : Int) + 1) (by omega)
  have hno : ofB l 5 n ((j : Int) + 1) = false := hlast _ (by omega) (by omega) (by omega)
  have hs : sigF l n (j + 1) = if ofB l 4 n ((j : Int) + 1) = true then sigF l n j ++ [(j : Int) + 1] else sigF l n j := by
   rw [sigF,hno];simp
  have hsl := sigF_len l n j
  rw [ofB] at hs
  repeat refine stq rfl ?_
  refine qst rfl rfl (q_cs rfl he rfl rfl) ?_
  repeat refine stq rfl ?_
  generalize entL l ((j : Int) + 1) = p at *
  (first|refine ps_split rfl rfl ?_ ?_|refine pq_split rfl rfl ?_ ?_|refine p3_split rfl rfl ?_ ?_)<;>intro h
  ·have g1 := of_decide_eq_true h
   clear h
   repeat refine stq rfl ?_
   (first|refine ps_split rfl rfl ?_ ?_|refine pq_split rfl rfl ?_ ?_|refine p3_split rfl rfl ?_ ?_)<;>intro h
   ·have g2 := of_decide_eq_true h
    clear h
    rw [g1,g2,decide_eq_true rfl,decide_eq_true rfl,Bool.true_and,Bool.true_and] at hs
    generalize liveB l ((j : Int) + 1) = lv at *
    repeat refine stq rfl ?_
    refine qst rfl rfl (q_cp rfl hv rfl rfl rfl) ?_
    repeat refine stq rfl ?_
    cases lv with
    |true =>
     rw [if_pos rfl] at hs
     repeat refine stq rfl ?_
     refine qst rfl rfl (q_slit rfl rfl rfl rfl rfl rfl rfl rfl rfl rfl (by repeat' constructor) rfl) ?_
     repeat refine stq rfl ?_
     refine ps_run (o_app 0 rfl rfl rfl rfl rfl rfl rfl rfl rfl rfl rfl (by repeat' constructor) (by intro row hr;first | (simp at hr;subst hr;rfl) | simp at hr) rfl rfl (by simp;omega) (by simp;omega) ?_)
     repeat refine stq rfl ?_
     refine ⟨j + 1,⟨by omega,by omega⟩,by omega,rfl,rfl,rfl,?_,i64_next (by omega) (by omega),?_,trivial⟩
     ·rw [hs];exact als_snoc eI 7 1 _ _
     ·rw [hs];exact cont_snoc eI 1 3 1 0 _ _
    |false =>
     rw [if_neg (by simp)] at hs
     repeat refine stq rfl ?_
     exact ⟨j + 1,⟨by omega,by omega⟩,by omega,rfl,rfl,rfl,by rw [hs];rfl,i64_next (by omega) (by omega),by rw [hs];rfl,trivial⟩
   ·have g2 := of_decide_eq_false h
    rw [decide_eq_false g2,Bool.and_false,Bool.false_and,if_neg (by simp)] at hs
    repeat refine stq rfl ?_
    exact ⟨j + 1,⟨by omega,by omega⟩,by omega,rfl,rfl,rfl,by rw [hs];rfl,i64_next (by omega) (by omega),by rw [hs];rfl,trivial⟩
  ·have g1 := of_decide_eq_false h
   rw [decide_eq_false g1,Bool.false_and,Bool.false_and,if_neg (by simp)] at hs
   repeat refine stq rfl ?_
   exact ⟨j + 1,⟨by omega,by omega⟩,by omega,rfl,rfl,rfl,by rw [hs];rfl,i64_next (by omega) (by omega),by rw [hs];rfl,trivial⟩
 ·have hz : j = b := by have := of_decide_eq_false h;omega
  subst hz
  repeat refine stq rfl ?_
  exact end1f rfl rfl rfl ⟨rfl,rfl,rfl⟩ rfl
end Go.Pv


set_option maxHeartbeats 2000000
namespace Go.Pv
attribute [local irreducible] PWP POps PQuiet PSem XThen XBlock RetPost InlPost
open Go.Proofs
theorem roleIs_ret (l : List SPost) (hl : l.length ≤ 400) (role i : Int) (h1 : 1 ≤ i) (h2 : i ≤ l.length) : Ret Tryz.prog .shared 174 [I i,.dref [.dref (eBook l) 0] 0,.dref [I role] 0] (.bool (decide ((entL l i).role = role))) := by
 have he := entry_ret l i h1 h2 hl
 refine Ret.of_pwp layOk mixed Go.Proofs.Tryz.func174 rfl (by decide) rfl rfl ?_
 repeat refine stq rfl ?_
 refine pw_draw 7 [5,6,7,8,9,10,4] (by decide +kernel) ?_
 repeat refine stq rfl ?_
 refine qst rfl rfl (q_cs rfl he rfl rfl) ?_
 repeat refine stq rfl ?_
 exact end1b rfl rfl rfl
theorem indexFunc_ret (l : List SPost) (hl : l.length ≤ 400) (role : Int) (L : List Int) (hL : L.length ≤ 1000000) (hin : ∀ x,x ∈ L → 1 ≤ x ∧ x ≤ l.length) :
  Ret Tryz.prog .shared 213 [.sl (L.map eI),.clo 174 [.dref [.dref (eBook l) 0] 0,.dref [I role] 0]] (I (idx L fun i => decide ((entL l i).role = role))) := by
 have hll : ((L.map eI).length : Int) = L.length := by simp
 refine Ret.of_pwp layOk mixed Go.Proofs.Tryz.func213 rfl (by decide) rfl rfl ?_
 repeat refine stq rfl ?_
 refine pw_loop (Clear L fun i => decide ((entL l i).role = role)) (fun k => [(0,.sl (L.map eI)),(1,.clo 174 [.dref [.dref (eBook l) 0] 0,.dref [I role] 0]),(7,I (L.map eI).length),(8,I k)]) (fun _ => []) (fun k => L.length - k) 0 .zero ⟨rfl,rfl,rfl,rfl,trivial⟩ ?_
 intro k s hk
 repeat refine stq rfl ?_
 refine pw_cond rfl (fun h => ?_) (fun h => ?_)
 ·have hlt : k < L.length := by have := of_decide_eq_true h;omega
  clear h
  obtain ⟨x,hx⟩ := get_lt hlt
  have hb := hin x (List.mem_of_getElem? hx)
  have hc := roleIs_ret l hl role x hb.1 hb.2
  generalize hbb : decide ((entL l x).role = role) = b at hc
  repeat refine stq rfl ?_
  refine qst rfl rfl (q_idxm rfl rfl rfl rfl rfl (by omega) hx rfl) ?_
  repeat refine stq rfl ?_
  refine qst rfl rfl (q_cp rfl hc rfl rfl rfl) ?_
  cases b with
  |true =>
   repeat refine stq rfl ?_
   exact end1i rfl rfl (by rw [hk.found hx hbb])
  |false =>
   repeat refine stq rfl ?_
   refine ⟨k + 1,hk.succ hx hbb,by omega,rfl,rfl,rfl,?_,trivial⟩
   exact i64_next (by omega) (by omega)
 ·have hf : ¬ k < L.length := by have := of_decide_eq_false h;omega
  repeat refine stq rfl ?_
  exact end1i rfl rfl (by rw [hk.none hf])
theorem containsFunc_ret (l : List SPost) (hl : l.length ≤ 400) (role : Int) (L : List Int) (hL : L.length ≤ 1000000) (hin : ∀ x,x ∈ L → 1 ≤ x ∧ x ≤ l.length) :
  Ret Tryz.prog .shared 173 [.sl (L.map eI),.clo 174 [.dref [.dref (eBook l) 0] 0,.dref [I role] 0]] (.bool (L.any fun i => decide ((entL l i).role = role))) := by
 have h1 := indexFunc_ret l hl role L hL hin
 refine Ret.of_pwp layOk mixed Go.Proofs.Tryz.func173 rfl (by decide) rfl rfl ?_
 repeat refine stq rfl ?_
 refine qst rfl rfl (q_cp rfl h1 rfl rfl rfl) ?_
 repeat refine stq rfl ?_
 exact end1b rfl rfl (by rw [idx_nonneg])
theorem sigF_mem {l : List SPost} {n : Int} : ∀ {b : Nat} {x : Int},x ∈ sigF l n b → 1 ≤ x ∧ x ≤ b
 |0,x,h => by simp [sigF] at h
 |b + 1,x,h => by
  rw [sigF] at h
  split at h
  ·rcases List.mem_append.1 h with h | h
   ·have := sigF_mem h;omega
   ·simp at h;omega
  ·split at h
   ·simp at h
   ·have := sigF_mem h;omega
def sgdB (l : List SPost) (n : Int) (b : Nat) (role : Int) : Bool := (sigF l n b).any fun i => decide ((entL l i).role = role)
theorem signed_ret (l : List SPost) (hO : Ok l) (n : Int) (b : Nat) (role : Int) (hn : 1 ≤ n) (hnb : n ≤ b) (hb : b ≤ l.length) : Ret Tryz.prog .shared 146 [.dref (eBook l) 0,I n,I (b + 1),I role] (.bool (sgdB l n b role)) := by
 have hs := signatures_ret l hO n b hn hnb hb
 have hl := hO.wf.len
 have hsl := sigF_len l n b
 have hc := containsFunc_ret l hl role (sigF l n b) (by omega) (fun x hx => by have := sigF_mem hx;omega)
 rw [sgdB]
 generalize sigF l n b = L at *
 refine Ret.of_pwp layOk mixed Go.Proofs.Tryz.func146 rfl (by decide) rfl rfl ?_
 ((repeat (first | refine ps_nil ?_ | refine pq_nil ?_ | refine x_norm ?_ | refine pw_seq ?_));refine pw_region ?_)
 refine ps_run (o_box rfl rfl rfl (by repeat' constructor) rfl ?_)
 refine ps_run (o_box rfl rfl rfl (by repeat' constructor) rfl ?_)
 repeat refine stq rfl ?_
 refine qst rfl rfl (q_cf rfl hs rfl rfl) ?_
 repeat refine stq rfl ?_
 refine qst rfl rfl (q_cp rfl hc rfl rfl rfl) ?_
 repeat refine stq rfl ?_
 exact end1b rfl rfl rfl
set_option maxRecDepth 20000 in
theorem signs_ref (l : List SPost) (hO : Ok l) (n : Int) (b : Nat) (hb : b ≤ l.length) : Ret Tryz.prog .fresh 141 [.sl (l.map ePost),I n,I (b + 1)] (.sl ((sigF l n b).map eI)) := by
 have hl := hO.wf.len
 refine Ret.of_pwp layOk mixed Go.Proofs.Tryz.func141 rfl (by decide) rfl rfl ?_
 ((repeat (first | refine ps_nil ?_ | refine pq_nil ?_ | refine x_norm ?_ | refine pw_seq ?_));refine pw_region ?_)
 refine ps_v rfl trivial ?_
 ((repeat (first | refine ps_nil ?_ | refine pq_nil ?_ | refine x_norm ?_ | refine pw_seq ?_));refine pw_region ?_)
 refine ps_v rfl trivial ?_
 refine ps_nil ?_
 refine x_norm ?_
 refine pw_ghost (Ghost.nilreg (k := 7) (t := 7) 3 1 0 rfl rfl) ?_
 repeat refine stq rfl ?_
 refine pw_loop (fun (j : Nat × Nat) => j.1 ≤ b) (fun j => [(0,.sl (l.map ePost)),(1,I n),(2,I (b + 1)),(7,.als 7 j.2 0 ((sigF l n j.1).map eI).length),(8,I (j.1 + 1))]) (fun j => [(7,j.2,⟨3,1,(sigF l n j.1).map eI,0⟩)]) (fun j => b - j.1) (0,1) (Nat.zero_le _) ⟨rfl,rfl,rfl,rfl,rfl,rfl,trivial⟩ ?_
 rintro ⟨j,g⟩ s hj
 have hj : j ≤ b := hj
 repeat refine stq rfl ?_
 refine pw_cond rfl (fun h => ?_) (fun h => ?_)
 ·have hjb : j < b := by have := of_decide_eq_true h;omega
  clear h
  have he := entL_at (l := l) (n := (j : Int) + 1) (by omega) (by omega)
  have hv := live_ref l hO.wf ((j : Int) + 1).toNat ((j : Int) + 1) (by omega) (by omega) (by omega)
  have hs : sigF l n (j + 1) = if ofB l 4 n ((j : Int) + 1) = true then sigF l n j ++ [(j : Int) + 1] else if ofB l 5 n ((j : Int) + 1) = true then [] else sigF l n j := rfl
  have hsl := sigF_len l n j
  have hw : IntKind.wrap .i64 ((j : Int) + 1 - 1) = (j : Int) + 1 - 1 := wrap_i64 (by omega) (by omega)
  rw [ofB,ofB] at hs
  repeat refine stq rfl ?_
  rw [hw]
  refine qst rfl rfl (q_idxm rfl rfl rfl rfl rfl (by omega) he rfl) ?_
  generalize entL l ((j : Int) + 1) = p at *
  repeat refine stq rfl ?_
  (first|refine ps_split rfl rfl ?_ ?_|refine pq_split rfl rfl ?_ ?_|refine p3_split rfl rfl ?_ ?_)<;>intro h
  ·have g1 : ¬ p.ref = n := by simpa using h
   rw [decide_eq_false g1,Bool.and_false,Bool.and_false,Bool.false_and,if_neg (by simp),if_neg (by simp)] at hs
   repeat refine stq rfl ?_
   exact ⟨(j + 1,g),hjb,by show b - (j + 1) < b - j;omega,rfl,rfl,rfl,by rw [hs];rfl,i64_next (by omega) (by omega),by rw [hs];rfl,trivial⟩
  have g1 : p.ref = n := by simpa using h
  clear h
  rw [decide_eq_true g1,Bool.and_true,Bool.and_true] at hs
  generalize liveB l ((j : Int) + 1) = lv at *
  repeat refine stq rfl ?_
  refine qst rfl rfl (q_cp rfl hv rfl rfl rfl) ?_
  cases lv with
  |false =>
   rw [Bool.and_false,Bool.and_false,if_neg (by simp),if_neg (by simp)] at hs
   repeat refine stq rfl ?_
   exact ⟨(j + 1,g),hjb,by show b - (j + 1) < b - j;omega,rfl,rfl,rfl,by rw [hs];rfl,i64_next (by omega) (by omega),by rw [hs];rfl,trivial⟩
  |true =>
  rw [Bool.and_true,Bool.and_true] at hs
  repeat refine stq rfl ?_
  rw [hw]
  refine qst rfl rfl (q_idxm rfl rfl rfl rfl rfl (by omega) he rfl) ?_
  repeat refine stq rfl ?_
  refine pw_cond rfl (fun h => ?_) (fun h => ?_)
  ·have g2 := of_decide_eq_true h
   rw [decide_eq_true g2,if_pos rfl] at hs
   repeat refine stq rfl ?_
   refine qst rfl rfl (q_slit rfl rfl rfl rfl rfl rfl rfl rfl rfl rfl (by repeat' constructor) rfl) ?_
   repeat refine stq rfl ?_
   refine ps_run (o_app 0 rfl rfl rfl rfl rfl rfl rfl rfl rfl rfl rfl (by repeat' constructor) (by intro row hr;first | (simp at hr;subst hr;rfl) | simp at hr) rfl rfl (by simp;omega) (by simp;omega) ?_)
   repeat refine stq rfl ?_
   refine ⟨(j + 1,g + 1),hjb,by show b - (j + 1) < b - j;omega,rfl,rfl,rfl,?_,i64_next (by omega) (by omega),?_,trivial⟩
   ·show _ = PV.als 7 (g + 1) 0 ((sigF l n (j + 1)).map eI).length
    rw [hs,List.map_append];rfl
   ·show _ = (g + 1,some (Cont.mk 3 1 ((sigF l n (j + 1)).map eI) 0))
    rw [hs,List.map_append];rfl
  ·have g2 := of_decide_eq_false h
   rw [decide_eq_false g2,if_neg (by simp)] at hs
   clear h
   repeat refine stq rfl ?_
   refine pw_cond rfl (fun h => ?_) (fun h => ?_)
   ·have g3 := of_decide_eq_true h
    rw [decide_eq_true g3,if_pos rfl] at hs
    refine pw_region ?_
    (first | refine ps_run (o_nilm 3 1 0 rfl rfl ?_) | refine ps_run (o_nila 3 1 0 rfl rfl ?_))
    repeat refine stq rfl ?_
    exact ⟨(j + 1,g + 1),hjb,by show b - (j + 1) < b - j;omega,rfl,rfl,rfl,by rw [hs];rfl,i64_next (by omega) (by omega),by rw [hs];rfl,trivial⟩
   ·have g3 := of_decide_eq_false h
    rw [decide_eq_false g3,if_neg (by simp)] at hs
    repeat refine stq rfl ?_
    exact ⟨(j + 1,g),hjb,by show b - (j + 1) < b - j;omega,rfl,rfl,rfl,by rw [hs];rfl,i64_next (by omega) (by omega),by rw [hs];rfl,trivial⟩
 ·have hz : j = b := by have := of_decide_eq_false h;omega
  subst hz
  repeat refine stq rfl ?_
  exact end1f rfl rfl rfl ⟨rfl,rfl,rfl⟩ rfl
theorem signed_ref (l : List SPost) (hO : Ok l) (n : Int) (b : Nat) (role : Int) (hb : b ≤ l.length) : Ret Tryz.prog .shared 172 [.sl (l.map ePost),I n,I (b + 1),I role] (.bool (sgdB l n b role)) := by
 have hs := signs_ref l hO n b hb
 have hl := hO.wf.len
 have hsl := sigF_len l n b
 have hin : ∀ x,x ∈ sigF l n b → 1 ≤ x ∧ x ≤ l.length := fun x hx => by have := sigF_mem hx;omega
 rw [sgdB]
 generalize sigF l n b = L at *
 have hll : ((L.map eI).length : Int) = L.length := by simp
 refine Ret.of_pwp layOk mixed Go.Proofs.Tryz.func172 rfl (by decide) rfl rfl ?_
 repeat refine stq rfl ?_
 refine qst rfl rfl (q_cf rfl hs rfl rfl) ?_
 repeat refine stq rfl ?_
 refine pw_loop (Clear L fun i => decide ((entL l i).role = role)) (fun k => [(0,.sl (l.map ePost)),(3,I role),(9,.fsl (L.map eI)),(10,I k)]) (fun _ => []) (fun k => L.length - k) 0 .zero ⟨rfl,rfl,rfl,rfl,trivial⟩ ?_
 intro k s hk
 have hkl := hk.1
 repeat refine stq rfl ?_
 refine pw_cond rfl (fun h => ?_) (fun h => ?_)
 ·have hlt : k < L.length := by have := of_decide_eq_true h;omega
  clear h
  obtain ⟨x,hx⟩ := get_lt hlt
  have hb := hin x (List.mem_of_getElem? hx)
  have he := entL_at hb.1 hb.2
  have hw : IntKind.wrap .i64 (x - 1) = x - 1 := wrap_i64 (by omega) (by omega)
  repeat refine stq rfl ?_
  refine qst rfl rfl (q_idxmF rfl rfl rfl rfl rfl (by omega) hx rfl) ?_
  repeat refine stq rfl ?_
  rw [hw]
  refine qst rfl rfl (q_idxm rfl rfl rfl rfl rfl (by omega) he rfl) ?_
  repeat refine stq rfl ?_
  refine pw_cond rfl (fun h => ?_) (fun h => ?_)
  ·repeat refine stq rfl ?_
   exact end1b rfl rfl (by rw [any_of hx h])
  ·repeat refine stq rfl ?_
   refine ⟨k + 1,hk.succ hx h,by omega,rfl,rfl,rfl,?_,trivial⟩
   exact i64_next (by omega) (by omega)
 ·have hf : ¬ k < L.length := by have := of_decide_eq_false h;omega
  repeat refine stq rfl ?_
  exact end1b rfl rfl (by rw [hk.any hf])
end Go.Pv


set_option maxHeartbeats 2000000
namespace Go.Pv
attribute [local irreducible] PWP POps PQuiet PSem XThen XBlock RetPost InlPost
open Go.Proofs
def aget : List (Int × Int) → Int → Int
 |[],_ => 0
 |(d,c) :: m,k => if d = k then c else aget m k
def aput (k v : Int) : List (Int × Int) → List (Int × Int)
 |[] => [(k,v)]
 |(d,c) :: m => if d = k then (d,v) :: m else (d,c) :: aput k v m
def eKV (e : Int × Int) : List PV := [I e.1,I e.2]
theorem mput_cons (key v : PV) (row : List PV) (rows : List (List PV)) : mput key v (row :: rows) = bif mhd key row then row.set 1 v :: rows else row :: mput key v rows := by
 unfold mput
 cases h : mhd key row with
 |true => simp [mix,h]
 |false =>
  simp only [mix,h,cond_false]
  cases hm : mix key rows with
  |none => simp
  |some i =>
   have hi := mix_lt hm
   simp [List.getElem?_eq_getElem hi]
theorem mval_kv (d : Int) : ∀ m : List (Int × Int),mval (I 0) (I d) (m.map eKV) = I (aget m d)
 |[] => rfl
 |(e,c) :: m => by
  rw [List.map_cons,mval_cons,mval_kv d m]
  have : mhd (I d) (eKV (e,c)) = decide (e = d) := rfl
  rw [this,aget]
  by_cases h : e = d
  ·rw [if_pos h,decide_eq_true h];rfl
  ·rw [if_neg h,decide_eq_false h];rfl
theorem mput_kv (d v : Int) : ∀ m : List (Int × Int),mput (I d) (I v) (m.map eKV) = (aput d v m).map eKV
 |[] => rfl
 |(e,c) :: m => by
  rw [List.map_cons,mput_cons,mput_kv d v m]
  have : mhd (I d) (eKV (e,c)) = decide (e = d) := rfl
  rw [this,aput]
  by_cases h : e = d
  ·rw [if_pos h,decide_eq_true h];rfl
  ·rw [if_neg h,decide_eq_false h];rfl
theorem keyed_kv (m : List (Int × Int)) : keyed (.int .i64) (m.map eKV) = true := by
 induction m with
 |nil => rfl
 |cons e m ih => rw [List.map_cons];exact ih
theorem keyedG_kv (m : List (Int × Int)) : keyedG (.int .i64) none (m.map eKV) = true := by
 induction m with
 |nil => rfl
 |cons e m ih => rw [List.map_cons];exact ih
theorem aget_aput (k v : Int) (d : Int) : ∀ m : List (Int × Int),aget (aput k v m) d = if k = d then v else aget m d
 |[] => rfl
 |(e,c) :: m => by
  have ih := aget_aput k v d m
  simp only [aput,aget]
  by_cases h : e = k
  ·subst h
   rw [if_pos rfl,aget]
   by_cases h2 : e = d
   ·rw [if_pos h2,if_pos h2]
   ·rw [if_neg h2,if_neg h2,if_neg h2]
  ·rw [if_neg h,aget,ih]
   by_cases h2 : e = d
   ·rw [if_pos h2,if_neg (by omega),if_pos h2]
   ·rw [if_neg h2,if_neg h2]
def tstB (l : List SPost) (o : Str) (i : Nat) (n : Int) (M : List (Int × Int)) : Bool := decide ((entL l n).op = 3) && decide ((entL l n).order = o) && decide (aget M n = 0) && liveB l n && sgdB l n i 0
def covIn (l : List SPost) (o : Str) (i : Nat) (M : List (Int × Int)) : Nat → List (Int × Int)
 |0 => M
 |n + 1 => if tstB l o i ((n : Int) + 1) (covIn l o i M n) = true then aput ((n : Int) + 1) (i + 1) (covIn l o i M n) else covIn l o i M n
def ivcB (l : List SPost) (o : Str) (k : Nat) : Bool := decide ((entL l ((k : Int) + 1)).op = 6) && decide ((entL l ((k : Int) + 1)).order = o) && liveB l ((k : Int) + 1)
def covOut (l : List SPost) (o : Str) : Nat → List (Int × Int)
 |0 => []
 |k + 1 => if ivcB l o k = true then covIn l o k (covOut l o k) k else covOut l o k
set_option maxRecDepth 20000 in
theorem covered_ret (l : List SPost) (hO : Ok l) (o : Str) : Ret Tryz.prog .fresh 112 [.dref (eBook l) 0,.str o] (.mapd ((covOut l o l.length).map eKV)) := by
 have hl := hO.wf.len
 have hll : ((l.map ePost).length : Int) = l.length := by simp
 refine Ret.of_pwp layOk mixed Go.Proofs.Tryz.func112 rfl (by decide) rfl rfl ?_
 repeat refine stq rfl ?_
 refine ps_run (o_mkmap rfl ?_)
 repeat refine stq rfl ?_
 rw [hll]
 refine pw_loop (fun k => k ≤ l.length) (fun k => [(0,.dref (eBook l) 0),(1,.str o),(5,.mp 10 1),(14,.sl (l.map ePost)),(15,I l.length),(16,I k)]) (fun k => [(10,1,⟨180,0,(covOut l o k).map eKV,0⟩)]) (fun k => l.length - k) 0 (Nat.zero_le _) ⟨rfl,rfl,rfl,rfl,rfl,rfl,rfl,trivial⟩ ?_
 intro k s hk
 have hk : k ≤ l.length := hk
 repeat refine stq rfl ?_
 refine pw_cond rfl (fun h => ?_) (fun h => ?_)
 ·have hlt : k < l.length := by have := of_decide_eq_true h;omega
  clear h
  have hx : l[k]? = some (entL l ((k : Int) + 1)) := by
   have := entL_at (l := l) (n := (k : Int) + 1) (by omega) (by omega)
   rwa [show ((k : Int) + 1 - 1).toNat = k by omega] at this
  have hv := live_ret l hO.wf ((k : Int) + 1) (by omega)
  have hs : covOut l o (k + 1) = if ivcB l o k = true then covIn l o k (covOut l o k) k else covOut l o k := rfl
  have hw : IntKind.wrap .i64 ((k : Int) + 1) = (k : Int) + 1 := wrap_i64 (by omega) (by omega)
  rw [ivcB] at hs
  generalize entL l ((k : Int) + 1) = x at hx hs
  repeat refine stq rfl ?_
  refine qst rfl rfl (q_idxm rfl rfl rfl rfl rfl (by omega) hx rfl) ?_
  repeat refine stq rfl ?_
  (first|refine ps_split rfl rfl ?_ ?_|refine pq_split rfl rfl ?_ ?_|refine p3_split rfl rfl ?_ ?_)<;>intro h
  ·have g1 : ¬ x.op = 6 := by simpa using h
   rw [decide_eq_false g1,Bool.false_and,Bool.false_and,if_neg (by simp)] at hs
   repeat refine stq rfl ?_
   exact ⟨k + 1,hlt,by omega,rfl,rfl,rfl,rfl,rfl,i64_next (by omega) (by omega),by rw [hs];rfl,trivial⟩
  have g1 : x.op = 6 := by simpa using h
  clear h
  rw [decide_eq_true g1,Bool.true_and] at hs
  repeat refine stq rfl ?_
  (first|refine ps_split rfl rfl ?_ ?_|refine pq_split rfl rfl ?_ ?_|refine p3_split rfl rfl ?_ ?_)<;>intro h
  ·have g2 : ¬ x.order = o := by simpa using h
   rw [decide_eq_false g2,Bool.false_and,if_neg (by simp)] at hs
   repeat refine stq rfl ?_
   exact ⟨k + 1,hlt,by omega,rfl,rfl,rfl,rfl,rfl,i64_next (by omega) (by omega),by rw [hs];rfl,trivial⟩
  have g2 : x.order = o := by simpa using h
  clear h
  rw [decide_eq_true g2,Bool.true_and] at hs
  generalize liveB l ((k : Int) + 1) = lv at *
  repeat refine stq rfl ?_
  rw [hw]
  refine qst rfl rfl (q_cp rfl hv rfl rfl rfl) ?_
  cases lv with
  |false =>
   rw [if_neg (by simp)] at hs
   repeat refine stq rfl ?_
   exact ⟨k + 1,hlt,by omega,rfl,rfl,rfl,rfl,rfl,i64_next (by omega) (by omega),by rw [hs];rfl,trivial⟩
  |true =>
  rw [if_pos rfl] at hs
  have hso := hs
  repeat refine stq rfl ?_
  refine pw_loop (fun n => n ≤ k) (fun n => [(0,.dref (eBook l) 0),(1,.str o),(5,.mp 10 1),(6,I k),(8,I (n + 1)),(14,.sl (l.map ePost)),(15,I l.length),(16,I k)]) (fun n => [(10,1,⟨180,0,(covIn l o k (covOut l o k) n).map eKV,0⟩)]) (fun n => k - n) 0 (Nat.zero_le _) ⟨rfl,rfl,rfl,rfl,rfl,rfl,rfl,rfl,rfl,trivial⟩ ?_
  intro n s2 hn
  have hn : n ≤ k := hn
  clear hs hv g1 g2 hx
  repeat refine stq rfl ?_
  refine pw_cond rfl (fun h => ?_) (fun h => ?_)
  ·have hnk : n < k := by have := of_decide_eq_true h;omega
   clear h
   have he := entry_ret l ((n : Int) + 1) (by omega) (by omega) hl
   have hv := live_ret l hO.wf ((n : Int) + 1) (by omega)
   have hsg := signed_ret l hO ((n : Int) + 1) k 0 (by omega) (by omega) (by omega)
   have hs : covIn l o k (covOut l o k) (n + 1) = if tstB l o k ((n : Int) + 1) (covIn l o k (covOut l o k) n) = true then aput ((n : Int) + 1) (k + 1) (covIn l o k (covOut l o k) n) else covIn l o k (covOut l o k) n := rfl
   have hwn : PV.int .i64 (IntKind.wrap .i64 ((n : Int) + 1 + 1)) = I (((n + 1 : Nat) : Int) + 1) := by rw [wrap_i64 (by omega) (by omega)];rfl
   rw [tstB] at hs
   generalize covIn l o k (covOut l o k) n = M at *
   repeat refine stq rfl ?_
   refine qst rfl rfl (q_cs rfl he rfl rfl) ?_
   repeat refine stq rfl ?_
   generalize entL l ((n : Int) + 1) = x at *
   (first|refine ps_split rfl rfl ?_ ?_|refine pq_split rfl rfl ?_ ?_|refine p3_split rfl rfl ?_ ?_)<;>intro h
   rotate_left
   ·have g1 := of_decide_eq_false h
    rw [decide_eq_false g1,Bool.false_and,Bool.false_and,Bool.false_and,Bool.false_and,if_neg (by simp)] at hs
    repeat refine stq rfl ?_
    exact ⟨n + 1,hnk,by omega,rfl,rfl,rfl,rfl,hwn,rfl,rfl,rfl,by rw [hs];rfl,trivial⟩
   have g1 := of_decide_eq_true h
   clear h
   rw [decide_eq_true g1,Bool.true_and] at hs
   repeat refine stq rfl ?_
   (first|refine ps_split rfl rfl ?_ ?_|refine pq_split rfl rfl ?_ ?_|refine p3_split rfl rfl ?_ ?_)<;>intro h
   rotate_left
   ·have g2 := of_decide_eq_false h
    rw [decide_eq_false g2,Bool.false_and,Bool.false_and,Bool.false_and,if_neg (by simp)] at hs
    repeat refine stq rfl ?_
    exact ⟨n + 1,hnk,by omega,rfl,rfl,rfl,rfl,hwn,rfl,rfl,rfl,by rw [hs];rfl,trivial⟩
   have g2 := of_decide_eq_true h
   clear h
   rw [decide_eq_true g2,Bool.true_and] at hs
   repeat refine stq rfl ?_
   refine qst rfl rfl (q_lookG none rfl rfl rfl rfl rfl zone3 rfl rfl rfl rfl rfl rfl (keyedG_kv M)) ?_
   rw [mval_kv]
   repeat refine stq rfl ?_
   (first|refine ps_split rfl rfl ?_ ?_|refine pq_split rfl rfl ?_ ?_|refine p3_split rfl rfl ?_ ?_)<;>intro h
   rotate_left
   ·have g3 := of_decide_eq_false h
    rw [decide_eq_false g3,Bool.false_and,Bool.false_and,if_neg (by simp)] at hs
    repeat refine stq rfl ?_
    exact ⟨n + 1,hnk,by omega,rfl,rfl,rfl,rfl,hwn,rfl,rfl,rfl,by rw [hs];rfl,trivial⟩
   have g3 := of_decide_eq_true h
   clear h
   rw [decide_eq_true g3,Bool.true_and] at hs
   generalize liveB l ((n : Int) + 1) = lv at *
   repeat refine stq rfl ?_
   refine qst rfl rfl (q_cp rfl hv rfl rfl rfl) ?_
   cases lv with
   |false =>
    rw [Bool.false_and,if_neg (by simp)] at hs
    repeat refine stq rfl ?_
    exact ⟨n + 1,hnk,by omega,rfl,rfl,rfl,rfl,hwn,rfl,rfl,rfl,by rw [hs];rfl,trivial⟩
   |true =>
   rw [Bool.true_and] at hs
   generalize sgdB l ((n : Int) + 1) k 0 = sg at *
   repeat refine stq rfl ?_
   rw [hw]
   refine qst rfl rfl (q_cp rfl hsg rfl rfl rfl) ?_
   cases sg with
   |false =>
    rw [if_neg (by simp)] at hs
    repeat refine stq rfl ?_
    exact ⟨n + 1,hnk,by omega,rfl,rfl,rfl,rfl,hwn,rfl,rfl,rfl,by rw [hs];rfl,trivial⟩
   |true =>
    rw [if_pos rfl] at hs
    repeat refine stq rfl ?_
    rw [hw]
    refine ps_run0 (o_mset 0 rfl rfl rfl rfl rfl rfl rfl rfl rfl (keyed_kv M) rfl rfl ?_)
    rw [show nrm 0 (PV.int .i64 ((k : Int) + 1)) = I ((k : Int) + 1) from rfl,mput_kv]
    repeat refine stq rfl ?_
    exact ⟨n + 1,hnk,by omega,rfl,rfl,rfl,rfl,hwn,rfl,rfl,rfl,by rw [hs];rfl,trivial⟩
  ·have hz : n = k := by have := of_decide_eq_false h;omega
   subst hz
   repeat refine stq rfl ?_
   exact ⟨n + 1,hlt,by omega,rfl,rfl,rfl,rfl,rfl,i64_next (by omega) (by omega),by rw [hso];rfl,trivial⟩
 ·have hz : k = l.length := by have := of_decide_eq_false h;omega
  subst hz
  repeat refine stq rfl ?_
  exact end1f rfl rfl rfl rfl rfl
end Go.Pv


set_option maxHeartbeats 2000000
namespace Go.Pv
attribute [local irreducible] PWP POps PQuiet PSem XThen XBlock RetPost InlPost
open Go.Proofs
def invF (l : List SPost) (n : Int) : Nat → Int
 |0 => 0
 |k + 1 => if invF l n k = 0 then (if (decide (n < (k : Int) + 1) && ivcB l (entL l n).order k && sgdB l n k 0) = true then (k : Int) + 1 else 0) else invF l n k
theorem covIn_at {l : List SPost} {o : Str} {i : Nat} {M : List (Int × Int)} {n : Int} (h1 : (entL l n).op = 3) (h2 : (entL l n).order = o) (h3 : liveB l n = true) (h4 : 1 ≤ n) : ∀ m : Nat,
  aget (covIn l o i M m) n = if n ≤ m ∧ aget M n = 0 ∧ sgdB l n i 0 = true then (i : Int) + 1 else aget M n
 |0 => by rw [covIn,if_neg (by omega)]
 |m + 1 => by
  have ih := covIn_at (l := l) (o := o) (i := i) (M := M) h1 h2 h3 h4 m
  rw [covIn]
  by_cases hn : n = (m : Int) + 1
  ·subst hn
   rw [if_neg (by omega)] at ih
   have ht : tstB l o i ((m : Int) + 1) (covIn l o i M m) = (decide (aget M ((m : Int) + 1) = 0) && sgdB l ((m : Int) + 1) i 0) := by
    rw [tstB,ih,h1,h2,h3];simp
   rw [ht]
   by_cases hc : aget M ((m : Int) + 1) = 0 ∧ sgdB l ((m : Int) + 1) i 0 = true
   ·rw [if_pos (by simp [hc.1,hc.2]),aget_aput,if_pos rfl,if_pos ⟨by omega,hc.1,hc.2⟩]
   ·rw [if_neg (by simpa using hc),ih,if_neg (fun h => hc h.2)]
  ·have hle : (n ≤ ((m + 1 : Nat) : Int)) ↔ n ≤ m := by omega
   have : aget (if tstB l o i ((m : Int) + 1) (covIn l o i M m) = true then aput ((m : Int) + 1) ((i : Int) + 1) (covIn l o i M m) else covIn l o i M m) n = aget (covIn l o i M m) n := by
    split
    ·rw [aget_aput,if_neg (fun e => hn e.symm)]
    ·rfl
   rw [this,ih]
   simp only [hle]
theorem covOut_at {l : List SPost} {o : Str} {n : Int} (h1 : (entL l n).op = 3) (h2 : (entL l n).order = o) (h3 : liveB l n = true) (h4 : 1 ≤ n) : ∀ k : Nat,aget (covOut l o k) n = invF l n k
 |0 => rfl
 |k + 1 => by
  have ih := covOut_at h1 h2 h3 h4 k
  rw [covOut,invF,h2]
  by_cases hi : ivcB l o k = true
  ·rw [if_pos hi,covIn_at h1 h2 h3 h4,ih,hi]
   by_cases hz : invF l n k = 0
   ·rw [if_pos hz,hz]
    by_cases hc : n ≤ k ∧ sgdB l n k 0 = true
    ·rw [if_pos ⟨hc.1,rfl,hc.2⟩,if_pos (by simp [hc.2];omega)]
    ·rw [if_neg (fun h => hc ⟨h.1,h.2.2⟩),if_neg (by intro h;simp at h;exact hc ⟨by omega,h.2⟩)]
   ·rw [if_neg hz,if_neg (fun h => hz h.2.1)]
  ·rw [if_neg hi,ih]
   split
   ·rename_i hz
    rw [hz,if_neg (by simp [hi])]
   ·rfl
def amF (l : List SPost) (n : Int) : Nat → List Int
 |0 => []
 |k + 1 => if ofB l 5 n ((k : Int) + 1) = true then amF l n k ++ [(k : Int) + 1] else amF l n k
theorem amF_len (l : List SPost) (n : Int) : ∀ k,(amF l n k).length ≤ k
 |0 => by simp [amF]
 |k + 1 => by
  have := amF_len l n k
  rw [amF]
  split
  ·simp;omega
  ·omega
theorem amF_early {l : List SPost} (h : Ok l) {n : Int} : ∀ (i : Nat),(i : Int) ≤ n → i ≤ l.length → amF l n i = []
 |0,_,_ => rfl
 |i + 1,h1,h2 => by
  have : ¬ ofB l 5 n (i + 1) = true := fun hb => by have := ofB_late h (.inr rfl) (by omega) (by omega) hb;omega
  rw [amF,if_neg this,amF_early h i (by omega) (by omega)]
def trailV (l : List SPost) (n : Int) : List PV := [I (ordNo l (entL l n).order),I (itmNo l (entL l n).order (entL l n).item),.sl ((amF l n l.length).map eI),.sl ((sigF l n l.length).map eI),I (invF l n l.length)]
def trailR (l : List SPost) (n : Int) : PV := if aimE l n [3] = 0 then .tup [.agg (trailV l n),I 0] else .tup [.agg [I 0,I 0,.nil,.nil,I 0],I (aimE l n [3])]
section
variable {L : Lay} {s : St} {fn : Func} {r : PV}
theorem endc2f {t1 t2 : Nat} {T : TypeId} {v d : PV} {A C1 : Prop} {b1 : Bool} {k2 : IntKind} {n2 : Int} (h : fn.results.toList = [.cell t1 T,.tmp t2]) (hq : qv L s (.load T (.tmp t1)) = some (v,A)) (ha : A) (h2 : s.reg t2 = .int k2 n2) (r1 : res s 4 v = some (d,C1,⟨b1,true⟩)) (c1 : C1)
  (hd : PV.tup [d,.int k2 n2] = r) : RetPost L fn .fresh r .ret s := by
 unfold RetPost
 refine ⟨[v,s.reg t2],A ∧ True ∧ True,.tup [d,.int k2 n2],C1 ∧ True ∧ True,(⟨b1,true⟩ : Fl).and ((⟨true,true⟩ : Fl).and ⟨true,true⟩),?_,⟨ha,trivial,trivial⟩,?_,⟨c1,trivial,trivial⟩,rfl,hd⟩
 ·rw [h]
  show (match rv L s (.cell t1 T) with | some (v,A) => (match rvs L s [.tmp t2] with | some (vs,B) => some (v :: vs,A ∧ B) | none => none) | none => none) = _
  rw [show rv L s (.cell t1 T) = some (v,A) from hq];rfl
 ·show (match resL (res s 4) [v,s.reg t2] with | some (ds,C1,b) => some (PV.tup ds,C1,b) | none => none) = _
  rw [h2]
  have q : ∀ (k : IntKind) (n : Int),res s 4 (.int k n) = some (.int k n,True,⟨true,true⟩) := fun k n => rfl
  simp only [resL,r1,q]
end
theorem end_ret (l : List SPost) (hl : l.length ≤ 400) : Ret Tryz.prog .shared 111 [.dref (eBook l) 0] (I (l.length + 1)) := by
 have hll : ((l.map ePost).length : Int) = l.length := by simp
 refine Ret.of_pwp layOk mixed Go.Proofs.Tryz.func111 rfl (by decide) rfl rfl ?_
 repeat refine stq rfl ?_
 exact end1i rfl rfl (by rw [hll,wrap_i64 (by omega) (by omega)])
set_option maxRecDepth 20000 in
theorem trace_ret (l : List SPost) (hO : Ok l) (n : Int) : Ret Tryz.prog .fresh 49 [.dref (eBook l) 0,I n] (trailR l n) := by
 have hl := hO.wf.len
 have ha := aimed_ret l hO.wf n [3] (by decide)
 rw [trailR]
 by_cases hz : aimE l n [3] = 0
 case neg =>
  rw [if_neg hz]
  refine Ret.of_pwp layOk mixed Go.Proofs.Tryz.func49 rfl (by decide) rfl rfl ?_
  repeat refine stq rfl ?_
  refine qst rfl rfl (q_slit rfl rfl rfl rfl rfl rfl rfl rfl rfl rfl (by repeat' constructor) rfl) ?_
  repeat refine stq rfl ?_
  refine qst rfl rfl (q_cp rfl ha rfl rfl rfl) ?_
  repeat refine stq rfl ?_
  refine pw_cond rfl (fun h => ?_) (fun h => ?_)
  ·repeat refine stq rfl ?_
   exact endc2f rfl rfl rfl rfl rfl (by repeat' constructor) rfl
  ·exact absurd (of_decide_eq_true (by simpa only [Bool.not_eq_false'] using h)) hz
 rw [if_pos hz]
 have hb := aimE_zero hz
 have hop : (entL l n).op = 3 ∧ liveB l n = true := by
  rw [aimE,if_neg (by simp [inside];omega)] at hz
  split at hz
  ·omega
  ·rename_i h1
   have := standE_zero hz
   have h2 : (([3] : List Int).any (· == (entL l n).op)) = true := by cases hh : (([3] : List Int).any (· == (entL l n).op)) <;> simp_all
   simp only [List.any_cons,List.any_nil,Bool.or_false,beq_iff_eq] at h2
   exact ⟨h2.symm,this.2⟩
 rw [hz] at ha
 clear hz
 have he := entry_ret l n hb.1 hb.2 hl
 have ho := (ordR_at l (entL l n).order).1
 have hi := (itmR_at l (entL l n).order (entL l n).item).1
 have h29 := end_ret l hl
 have h28 := signatures_ret l hO n l.length hb.1 hb.2 (Nat.le_refl _)
 have h30 := covered_ret l hO (entL l n).order
 have hcov := covOut_at hop.1 rfl hop.2 hb.1 l.length
 obtain ⟨m,rfl⟩ : ∃ m : Nat,n = m := ⟨n.toNat,by omega⟩
 rw [trailV,← hcov]
 generalize entL l (m : Int) = p at *
 have hw : IntKind.wrap .i64 ((m : Int) + 1) = (m : Int) + 1 := wrap_i64 (by omega) (by omega)
 refine Ret.of_pwp layOk mixed Go.Proofs.Tryz.func49 rfl (by decide) rfl rfl ?_
 repeat refine stq rfl ?_
 refine qst rfl rfl (q_slit rfl rfl rfl rfl rfl rfl rfl rfl rfl rfl (by repeat' constructor) rfl) ?_
 repeat refine stq rfl ?_
 refine qst rfl rfl (q_cp rfl ha rfl rfl rfl) ?_
 repeat refine stq rfl ?_
 refine qst rfl rfl (q_cs rfl he rfl rfl) ?_
 repeat refine stq rfl ?_
 refine pw_draw3 [8] [29,30] (by decide +kernel) ?_
 repeat refine stq rfl ?_
 refine qst rfl rfl (q_lookV none ho (ordR_keyed l) zone3 rfl rfl rfl rfl rfl rfl rfl rfl rfl) ?_
 repeat refine stq rfl ?_
 refine qst rfl rfl (q_lookV (some [.str,.str]) hi (itmR_keyed l _) zone3 good72 rfl rfl rfl rfl rfl rfl rfl rfl) ?_
 repeat refine stq rfl ?_
 refine qst rfl rfl (q_cp rfl h29 rfl rfl rfl) ?_
 repeat refine stq rfl ?_
 refine qst rfl rfl (q_cf rfl h28 rfl rfl) ?_
 repeat refine stq rfl ?_
 refine qst rfl rfl (q_cf rfl h30 rfl rfl) ?_
 repeat refine stq rfl ?_
 refine qst rfl rfl (q_lookV none (mval_kv m (covOut l p.order l.length)) (keyedG_kv _) zone3 rfl rfl rfl rfl rfl rfl rfl rfl rfl) ?_
 repeat refine stq rfl ?_
 refine pw_ghost (Ghost.nilcell (k := 200) (k0 := 8) (i := 0) (j := 2) (row := [I (ordNo l p.order),I (itmNo l p.order p.item),.nil,.fsl ((sigF l m l.length).map eI),I (aget (covOut l p.order l.length) m)]) 3 1 0 rfl rfl rfl rfl rfl rfl rfl) ?_
 repeat refine stq rfl ?_
 have hem := amF_early hO m (Int.le_refl _) (by omega)
 generalize ordNo l p.order = rO at *
 generalize itmNo l p.order p.item = rI at *
 generalize aget (covOut l p.order l.length) m = rV at *
 generalize sigF l m l.length = sg at *
 refine pw_loop (fun j => m ≤ j ∧ j ≤ l.length) (fun j => [(0,.dref (eBook l) 0),(1,I m),(4,.ptr 4 1 0 0),(8,.ptr 8 1 0 0),(9,I (j + 1))])
  (fun j => [(4,1,⟨98,5,[[I 0,I 0,.nil,.nil,I 0]],2⟩),(8,1,⟨98,5,[[I rO,I rI,.als 200 (1 + (amF l m j).length) 0 ((amF l m j).map eI).length,.fsl (sg.map eI),I rV]],2⟩),(200,1 + (amF l m j).length,⟨3,1,(amF l m j).map eI,0⟩)]) (fun j => l.length - j) m ⟨Nat.le_refl _,by omega⟩ ?_ ?_
 ·rw [hem]
  exact ⟨rfl,rfl,rfl,rfl,congrArg I hw,rfl,rfl,rfl,trivial⟩
 intro j s hj
 clear ha he ho hi h28 h30 hcov hem
 have hwn : PV.int .i64 (IntKind.wrap .i64 ((j : Int) + 1 + 1)) = I (((j + 1 : Nat) : Int) + 1) ∨ ¬ j < l.length := by
  by_cases hlt : j < l.length
  ·left;rw [wrap_i64 (by omega) (by omega)];rfl
  ·exact .inr hlt
 repeat refine stq rfl ?_
 refine qst rfl rfl (q_cp rfl h29 rfl rfl rfl) ?_
 repeat refine stq rfl ?_
 refine pw_cond rfl (fun h => ?_) (fun h => ?_)
 ·have hlt : j < l.length := by have := of_decide_eq_true h;omega
  clear h
  replace hwn := hwn.resolve_right (fun hc => hc hlt)
  have he := entry_ret l ((j : Int) + 1) (by omega) (by omega) hl
  have hv := live_ret l hO.wf ((j : Int) + 1) (by omega)
  have hs : amF l m (j + 1) = if ofB l 5 m ((j : Int) + 1) = true then amF l m j ++ [(j : Int) + 1] else amF l m j := rfl
  have hal := amF_len l m j
  rw [ofB] at hs
  repeat refine stq rfl ?_
  refine qst rfl rfl (q_cs rfl he rfl rfl) ?_
  repeat refine stq rfl ?_
  generalize entL l ((j : Int) + 1) = x at *
  (first|refine ps_split rfl rfl ?_ ?_|refine pq_split rfl rfl ?_ ?_|refine p3_split rfl rfl ?_ ?_)<;>intro h
  rotate_left
  ·have g1 := of_decide_eq_false h
   rw [decide_eq_false g1,Bool.false_and,Bool.false_and,if_neg (by simp)] at hs
   repeat refine stq rfl ?_
   exact ⟨j + 1,⟨by omega,hlt⟩,by omega,rfl,rfl,rfl,rfl,hwn,rfl,by rw [hs];rfl,by rw [hs];rfl,trivial⟩
  have g1 := of_decide_eq_true h
  clear h
  rw [decide_eq_true g1,Bool.true_and] at hs
  repeat refine stq rfl ?_
  (first|refine ps_split rfl rfl ?_ ?_|refine pq_split rfl rfl ?_ ?_|refine p3_split rfl rfl ?_ ?_)<;>intro h
  rotate_left
  ·have g2 := of_decide_eq_false h
   rw [decide_eq_false g2,Bool.false_and,if_neg (by simp)] at hs
   repeat refine stq rfl ?_
   exact ⟨j + 1,⟨by omega,hlt⟩,by omega,rfl,rfl,rfl,rfl,hwn,rfl,by rw [hs];rfl,by rw [hs];rfl,trivial⟩
  have g2 := of_decide_eq_true h
  clear h
  rw [decide_eq_true g2,Bool.true_and] at hs
  generalize liveB l ((j : Int) + 1) = lv at *
  repeat refine stq rfl ?_
  refine qst rfl rfl (q_cp rfl hv rfl rfl rfl) ?_
  cases lv with
  |false =>
   rw [if_neg (by simp)] at hs
   repeat refine stq rfl ?_
   exact ⟨j + 1,⟨by omega,hlt⟩,by omega,rfl,rfl,rfl,rfl,hwn,rfl,by rw [hs];rfl,by rw [hs];rfl,trivial⟩
  |true =>
   rw [if_pos rfl] at hs
   repeat refine stq rfl ?_
   refine qst rfl rfl (q_slit rfl rfl rfl rfl rfl rfl rfl rfl rfl rfl (by repeat' constructor) rfl) ?_
   repeat refine stq rfl ?_
   refine ps_run (o_app 0 rfl rfl rfl rfl rfl rfl rfl rfl rfl rfl rfl (by repeat' constructor) (by intro row hr;first | (simp at hr;subst hr;rfl) | simp at hr) rfl rfl (by simp;omega) (by simp;omega) ?_)
   repeat refine stq rfl ?_
   refine ⟨j + 1,⟨by omega,hlt⟩,by omega,rfl,rfl,rfl,rfl,hwn,rfl,?_,?_,trivial⟩
   ·rw [hs]
    refine Eq.trans (b := (1,some (Cont.mk 98 5 [[I rO,I rI,.als 200 (1 + (amF l m j).length + 1) 0 ((amF l m j).map eI ++ [eI ((j : Int) + 1)]).length,.fsl (sg.map eI),I rV]] 2))) rfl ?_
    rw [als_snoc eI 200 1 (amF l m j) ((j : Int) + 1)]
   ·rw [hs];exact cont_snoc eI 1 3 1 0 _ _
 ·have hz : j = l.length := by have := of_decide_eq_false h;omega
  subst hz
  repeat refine stq rfl ?_
  exact endc2f rfl rfl (by repeat' constructor) rfl rfl (by repeat' constructor) rfl
end Go.Pv


set_option maxHeartbeats 2000000
namespace Go.Pv
attribute [local irreducible] PWP POps PQuiet PSem XThen XBlock RetPost InlPost
open Go.Proofs
theorem invF_stay {l : List SPost} {n : Int} {k : Nat} (h : ¬ invF l n k = 0) : ∀ k',k ≤ k' → invF l n k' = invF l n k
 |0,hk => by have : k = 0 := by omega
             subst this;rfl
 |k' + 1,hk => by
  by_cases he : k = k' + 1
  ·rw [he]
  ·have ih := invF_stay h k' (by omega)
   rw [invF,if_neg (by rw [ih];exact h),ih]
theorem invF_early {l : List SPost} {n : Int} : ∀ (k : Nat),(k : Int) ≤ n → invF l n k = 0
 |0,_ => rfl
 |k + 1,h => by
  rw [invF,if_pos (invF_early k (by omega)),decide_eq_false (by omega)];simp
set_option maxRecDepth 20000 in
theorem invoice_ref (l : List SPost) (hO : Ok l) (n : Int) (h1 : 1 ≤ n) (h2 : n ≤ l.length) : Ret Tryz.prog .shared 142 [.sl (l.map ePost),I n] (I (invF l n l.length)) := by
 have hl := hO.wf.len
 have hll : ((l.map ePost).length : Int) = l.length := by simp
 have hen := entL_at h1 h2
 have hwn : IntKind.wrap .i64 (n - 1) = n - 1 := wrap_i64 (by omega) (by omega)
 obtain ⟨m,rfl⟩ : ∃ m : Nat,n = m := ⟨n.toNat,by omega⟩
 have hw : IntKind.wrap .i64 ((m : Int) + 1) = (m : Int) + 1 := wrap_i64 (by omega) (by omega)
 refine Ret.of_pwp layOk mixed Go.Proofs.Tryz.func142 rfl (by decide) rfl rfl ?_
 repeat refine stq rfl ?_
 rw [hw]
 refine pw_loop (fun j => m ≤ j ∧ j ≤ l.length ∧ invF l m j = 0) (fun j => [(0,.sl (l.map ePost)),(1,I m),(5,I (j + 1))]) (fun _ => []) (fun j => l.length - j) m ⟨Nat.le_refl _,by omega,invF_early m (Int.le_refl _)⟩ ⟨rfl,rfl,rfl,trivial⟩ ?_
 intro j s hj
 repeat refine stq rfl ?_
 rw [hll]
 refine pw_cond rfl (fun h => ?_) (fun h => ?_)
 ·have hlt : j < l.length := by have := of_decide_eq_true h;omega
  clear h
  have he := entL_at (l := l) (n := (j : Int) + 1) (by omega) (by omega)
  have hv := live_ref l hO.wf ((j : Int) + 1).toNat ((j : Int) + 1) (by omega) (by omega) (by omega)
  have hsg := signed_ref l hO m j 0 (by omega)
  have hwj : IntKind.wrap .i64 ((j : Int) + 1 - 1) = (j : Int) + 1 - 1 := wrap_i64 (by omega) (by omega)
  have hwn1 : PV.int .i64 (IntKind.wrap .i64 ((j : Int) + 1 + 1)) = I (((j + 1 : Nat) : Int) + 1) := by rw [wrap_i64 (by omega) (by omega)];rfl
  have hs : invF l m (j + 1) = if (ivcB l (entL l m).order j && sgdB l m j 0) = true then (j : Int) + 1 else 0 := by
   rw [invF,if_pos hj.2.2,decide_eq_true (show (m : Int) < (j : Int) + 1 by omega),Bool.true_and]
  have hst := fun h => invF_stay (l := l) (n := m) (k := j + 1) h l.length (by omega)
  rw [ivcB] at hs
  generalize entL l ((j : Int) + 1) = x at *
  generalize entL l (m : Int) = y at *
  repeat refine stq rfl ?_
  refine pw_draw 33 [14,15,16,17,18,19,20,21,22,23,24,25,26,27,28,29,30,31,32,33,34,35,36,37,38,39,40,41,42,43,44,45,46] (by decide +kernel) ?_
  repeat refine stq rfl ?_
  rw [hwj]
  refine qst rfl rfl (q_idxm rfl rfl rfl rfl rfl (by omega) he rfl) ?_
  repeat refine stq rfl ?_
  (first|refine ps_split rfl rfl ?_ ?_|refine pq_split rfl rfl ?_ ?_|refine p3_split rfl rfl ?_ ?_)<;>intro h
  rotate_left
  ·have g1 := of_decide_eq_false h
   rw [decide_eq_false g1,Bool.false_and,Bool.false_and,Bool.false_and,if_neg (by simp)] at hs
   repeat refine stq rfl ?_
   exact ⟨j + 1,⟨by omega,hlt,hs⟩,by omega,rfl,rfl,hwn1,trivial⟩
  have g1 := of_decide_eq_true h
  clear h
  rw [decide_eq_true g1,Bool.true_and] at hs
  repeat refine stq rfl ?_
  rw [hwj]
  refine qst rfl rfl (q_idxm rfl rfl rfl rfl rfl (by omega) he rfl) ?_
  repeat refine stq rfl ?_
  rw [hwn]
  refine qst rfl rfl (q_idxm rfl rfl rfl rfl rfl (by omega) hen rfl) ?_
  repeat refine stq rfl ?_
  (first|refine ps_split rfl rfl ?_ ?_|refine pq_split rfl rfl ?_ ?_|refine p3_split rfl rfl ?_ ?_)<;>intro h
  rotate_left
  ·have g2 := of_decide_eq_false h
   rw [decide_eq_false g2,Bool.false_and,Bool.false_and,if_neg (by simp)] at hs
   repeat refine stq rfl ?_
   exact ⟨j + 1,⟨by omega,hlt,hs⟩,by omega,rfl,rfl,hwn1,trivial⟩
  have g2 := of_decide_eq_true h
  clear h
  rw [decide_eq_true g2,Bool.true_and] at hs
  generalize liveB l ((j : Int) + 1) = lv at *
  repeat refine stq rfl ?_
  refine qst rfl rfl (q_cp rfl hv rfl rfl rfl) ?_
  cases lv with
  |false =>
   rw [Bool.false_and,if_neg (by simp)] at hs
   repeat refine stq rfl ?_
   exact ⟨j + 1,⟨by omega,hlt,hs⟩,by omega,rfl,rfl,hwn1,trivial⟩
  |true =>
  rw [Bool.true_and] at hs
  generalize sgdB l m j 0 = sg at *
  repeat refine stq rfl ?_
  refine qst rfl rfl (q_cp rfl hsg rfl rfl rfl) ?_
  cases sg with
  |false =>
   rw [if_neg (by simp)] at hs
   repeat refine stq rfl ?_
   exact ⟨j + 1,⟨by omega,hlt,hs⟩,by omega,rfl,rfl,hwn1,trivial⟩
  |true =>
   rw [if_pos rfl] at hs
   repeat refine stq rfl ?_
   exact end1i rfl rfl (by rw [hst (by rw [hs];omega),hs])
 ·have hz : j = l.length := by have := of_decide_eq_false h;omega
  subst hz
  repeat refine stq rfl ?_
  exact end1i rfl rfl (by rw [hj.2.2])
set_option maxRecDepth 20000 in
theorem trace_ref (l : List SPost) (hO : Ok l) (n : Int) : Ret Tryz.prog .fresh 99 [.sl (l.map ePost),I n] (trailR l n) := by
 have hl := hO.wf.len
 have hll : ((l.map ePost).length : Int) = l.length := by simp
 rw [trailR]
 by_cases hin : 1 ≤ n ∧ n ≤ l.length
 case neg =>
  have ha : aimE l n [3] = 6 := by
   rw [aimE,if_pos]
   simp [inside];omega
  rw [if_neg (by rw [ha];omega),ha]
  refine Ret.of_pwp layOk mixed Go.Proofs.Tryz.func99 rfl (by decide) rfl rfl ?_
  repeat refine stq rfl ?_
  (first|refine ps_split rfl rfl ?_ ?_|refine pq_split rfl rfl ?_ ?_|refine p3_split rfl rfl ?_ ?_)<;>intro h
  ·repeat refine stq rfl ?_
   exact endc2f rfl rfl rfl rfl rfl (by repeat' constructor) rfl
  ·have h1 := of_decide_eq_false h
   repeat refine stq rfl ?_
   rw [hll]
   refine pw_cond rfl (fun h => ?_) (fun h => ?_)
   ·repeat refine stq rfl ?_
    exact endc2f rfl rfl rfl rfl rfl (by repeat' constructor) rfl
   ·exact absurd (of_decide_eq_false h) (by omega)
 have hen := entL_at hin.1 hin.2
 have hwn : IntKind.wrap .i64 (n - 1) = n - 1 := wrap_i64 (by omega) (by omega)
 have hv := live_ref l hO.wf n.toNat n (by omega) hin.1 hin.2
 have ho := order_ref l (entL l n).order hl
 have hb := base_ref l n hin.1 hin.2 hl
 have hsg := signs_ref l hO n l.length (Nat.le_refl _)
 have hiv := invoice_ref l hO n hin.1 hin.2
 have ha : aimE l n [3] = if (entL l n).op = 3 then (if liveB l n = true then 0 else 27) else 3 := by
  rw [aimE,if_neg (by simp [inside];omega)]
  by_cases h3 : (entL l n).op = 3
  ·rw [if_neg (by simp [h3]),if_pos h3,standE,if_neg (by omega)]
  ·rw [if_pos (by simp;omega),if_neg h3]
 have hbs : (entL l n).op = 3 → supNo l (entL l n) = itmNo l (entL l n).order (entL l n).item := fun h => by rw [supNo,if_neg (by omega),if_pos (.inr h)]
 rw [ha,trailV]
 clear ha
 generalize entL l n = p at *
 have pre : ∀ (X : Prop),(¬ n < 1 → ¬ n > (l.length : Int) → X) → X := fun X h => h (by omega) (by omega)
 by_cases h3 : p.op = 3
 case neg =>
  rw [if_neg h3,if_neg (by omega)]
  refine Ret.of_pwp layOk mixed Go.Proofs.Tryz.func99 rfl (by decide) rfl rfl ?_
  repeat refine stq rfl ?_
  (first|refine ps_split rfl rfl ?_ ?_|refine pq_split rfl rfl ?_ ?_|refine p3_split rfl rfl ?_ ?_)<;>intro h
  ·exact absurd (of_decide_eq_true h) (by omega)
  clear h
  repeat refine stq rfl ?_
  rw [hll]
  refine pw_cond rfl (fun h => ?_) (fun h => ?_)
  ·exact absurd (of_decide_eq_true h) (by omega)
  clear h
  repeat refine stq rfl ?_
  rw [hwn]
  refine qst rfl rfl (q_idxm rfl rfl rfl rfl rfl (by omega) hen rfl) ?_
  repeat refine stq rfl ?_
  refine pw_cond rfl (fun h => ?_) (fun h => ?_)
  ·repeat refine stq rfl ?_
   exact endc2f rfl rfl rfl rfl rfl (by repeat' constructor) rfl
  ·exact absurd (of_decide_eq_true (by simpa only [Bool.not_eq_false'] using h)) h3
 rw [if_pos h3]
 have hbs := hbs h3
 rw [hbs] at hb
 generalize liveB l n = lv at *
 cases lv with
 |false =>
  rw [show (if (false = true) then (0 : Int) else 27) = 27 from rfl,if_neg (by omega)]
  refine Ret.of_pwp layOk mixed Go.Proofs.Tryz.func99 rfl (by decide) rfl rfl ?_
  repeat refine stq rfl ?_
  (first|refine ps_split rfl rfl ?_ ?_|refine pq_split rfl rfl ?_ ?_|refine p3_split rfl rfl ?_ ?_)<;>intro h
  ·exact absurd (of_decide_eq_true h) (by omega)
  clear h
  repeat refine stq rfl ?_
  rw [hll]
  refine pw_cond rfl (fun h => ?_) (fun h => ?_)
  ·exact absurd (of_decide_eq_true h) (by omega)
  clear h
  repeat refine stq rfl ?_
  rw [hwn]
  refine qst rfl rfl (q_idxm rfl rfl rfl rfl rfl (by omega) hen rfl) ?_
  repeat refine stq rfl ?_
  refine pw_cond rfl (fun h => ?_) (fun h => ?_)
  ·exact absurd h3 (of_decide_eq_false (by simpa only [Bool.not_eq_true'] using h))
  clear h
  repeat refine stq rfl ?_
  refine qst rfl rfl (q_cp rfl hv rfl rfl rfl) ?_
  repeat refine stq rfl ?_
  exact endc2f rfl rfl rfl rfl rfl (by repeat' constructor) rfl
 |true =>
 rw [if_pos rfl,if_pos rfl]
 obtain ⟨m,rfl⟩ : ∃ m : Nat,n = m := ⟨n.toNat,by omega⟩
 refine Ret.of_pwp layOk mixed Go.Proofs.Tryz.func99 rfl (by decide) rfl rfl ?_
 repeat refine stq rfl ?_
 (first|refine ps_split rfl rfl ?_ ?_|refine pq_split rfl rfl ?_ ?_|refine p3_split rfl rfl ?_ ?_)<;>intro h
 ·exact absurd (of_decide_eq_true h) (by omega)
 clear h
 repeat refine stq rfl ?_
 rw [hll]
 refine pw_cond rfl (fun h => ?_) (fun h => ?_)
 ·exact absurd (of_decide_eq_true h) (by omega)
 clear h
 repeat refine stq rfl ?_
 rw [hwn]
 refine qst rfl rfl (q_idxm rfl rfl rfl rfl rfl (by omega) hen rfl) ?_
 repeat refine stq rfl ?_
 refine pw_cond rfl (fun h => ?_) (fun h => ?_)
 ·exact absurd h3 (of_decide_eq_false (by simpa only [Bool.not_eq_true'] using h))
 clear h
 repeat refine stq rfl ?_
 refine qst rfl rfl (q_cp rfl hv rfl rfl rfl) ?_
 repeat refine stq rfl ?_
 rw [hwn]
 refine qst rfl rfl (q_idxm rfl rfl rfl rfl rfl (by omega) hen rfl) ?_
 repeat refine stq rfl ?_
 refine qst rfl rfl (q_cp rfl ho rfl rfl rfl) ?_
 repeat refine stq rfl ?_
 refine qst rfl rfl (q_cp rfl hb rfl rfl rfl) ?_
 repeat refine stq rfl ?_
 rw [hll,show IntKind.wrap .i64 ((l.length : Int) + 1) = (l.length : Int) + 1 from wrap_i64 (by omega) (by omega)]
 refine qst rfl rfl (q_cf rfl hsg rfl rfl) ?_
 repeat refine stq rfl ?_
 refine qst rfl rfl (q_cp rfl hiv rfl rfl rfl) ?_
 repeat refine stq rfl ?_
 refine pw_ghost (Ghost.nilcell (k := 200) (k0 := 6) (i := 0) (j := 2) (row := [I (ordNo l p.order),I (itmNo l p.order p.item),.nil,.fsl ((sigF l m l.length).map eI),I (invF l m l.length)]) 3 1 0 rfl rfl rfl rfl rfl rfl rfl) ?_
 repeat refine stq rfl ?_
 generalize ordNo l p.order = rO at *
 generalize itmNo l p.order p.item = rI at *
 generalize invF l m l.length = rV at *
 generalize sigF l m l.length = sg at *
 refine pw_loop (fun j => j ≤ l.length) (fun j => [(0,.sl (l.map ePost)),(1,I m),(4,.ptr 4 1 0 0),(6,.ptr 6 1 0 0),(7,I (j + 1))])
  (fun j => [(4,1,⟨98,5,[[I 0,I 0,.nil,.nil,I 0]],2⟩),(6,1,⟨98,5,[[I rO,I rI,.als 200 (1 + (amF l m j).length) 0 ((amF l m j).map eI).length,.fsl (sg.map eI),I rV]],2⟩),(200,1 + (amF l m j).length,⟨3,1,(amF l m j).map eI,0⟩)]) (fun j => l.length - j) 0 (Nat.zero_le _) ⟨rfl,rfl,rfl,rfl,rfl,rfl,rfl,rfl,trivial⟩ ?_
 intro j s hj
 have hj : j ≤ l.length := hj
 clear ho hb hsg hiv hen hv
 repeat refine stq rfl ?_
 rw [hll]
 refine pw_cond rfl (fun h => ?_) (fun h => ?_)
 ·have hlt : j < l.length := by have := of_decide_eq_true h;omega
  clear h
  have hwn1 : PV.int .i64 (IntKind.wrap .i64 ((j : Int) + 1 + 1)) = I (((j + 1 : Nat) : Int) + 1) := by rw [wrap_i64 (by omega) (by omega)];rfl
  have hwj : IntKind.wrap .i64 ((j : Int) + 1 - 1) = (j : Int) + 1 - 1 := wrap_i64 (by omega) (by omega)
  have he := entL_at (l := l) (n := (j : Int) + 1) (by omega) (by omega)
  have hv := live_ref l hO.wf ((j : Int) + 1).toNat ((j : Int) + 1) (by omega) (by omega) (by omega)
  have hs : amF l m (j + 1) = if ofB l 5 m ((j : Int) + 1) = true then amF l m j ++ [(j : Int) + 1] else amF l m j := rfl
  have hal := amF_len l m j
  rw [ofB] at hs
  generalize entL l ((j : Int) + 1) = x at *
  repeat refine stq rfl ?_
  rw [hwj]
  refine qst rfl rfl (q_idxm rfl rfl rfl rfl rfl (by omega) he rfl) ?_
  repeat refine stq rfl ?_
  (first|refine ps_split rfl rfl ?_ ?_|refine pq_split rfl rfl ?_ ?_|refine p3_split rfl rfl ?_ ?_)<;>intro h
  rotate_left
  ·have g1 := of_decide_eq_false h
   rw [decide_eq_false g1,Bool.false_and,Bool.false_and,if_neg (by simp)] at hs
   repeat refine stq rfl ?_
   exact ⟨j + 1,hlt,by omega,rfl,rfl,rfl,rfl,hwn1,rfl,by rw [hs];rfl,by rw [hs];rfl,trivial⟩
  have g1 := of_decide_eq_true h
  clear h
  rw [decide_eq_true g1,Bool.true_and] at hs
  repeat refine stq rfl ?_
  rw [hwj]
  refine qst rfl rfl (q_idxm rfl rfl rfl rfl rfl (by omega) he rfl) ?_
  repeat refine stq rfl ?_
  (first|refine ps_split rfl rfl ?_ ?_|refine pq_split rfl rfl ?_ ?_|refine p3_split rfl rfl ?_ ?_)<;>intro h
  rotate_left
  ·have g2 := of_decide_eq_false h
   rw [decide_eq_false g2,Bool.false_and,if_neg (by simp)] at hs
   repeat refine stq rfl ?_
   exact ⟨j + 1,hlt,by omega,rfl,rfl,rfl,rfl,hwn1,rfl,by rw [hs];rfl,by rw [hs];rfl,trivial⟩
  have g2 := of_decide_eq_true h
  clear h
  rw [decide_eq_true g2,Bool.true_and] at hs
  generalize liveB l ((j : Int) + 1) = lv at *
  repeat refine stq rfl ?_
  refine qst rfl rfl (q_cp rfl hv rfl rfl rfl) ?_
  cases lv with
  |false =>
   rw [if_neg (by simp)] at hs
   repeat refine stq rfl ?_
   exact ⟨j + 1,hlt,by omega,rfl,rfl,rfl,rfl,hwn1,rfl,by rw [hs];rfl,by rw [hs];rfl,trivial⟩
  |true =>
   rw [if_pos rfl] at hs
   repeat refine stq rfl ?_
   refine qst rfl rfl (q_slit rfl rfl rfl rfl rfl rfl rfl rfl rfl rfl (by repeat' constructor) rfl) ?_
   repeat refine stq rfl ?_
   refine ps_run (o_app 0 rfl rfl rfl rfl rfl rfl rfl rfl rfl rfl rfl (by repeat' constructor) (by intro row hr;first | (simp at hr;subst hr;rfl) | simp at hr) rfl rfl (by simp;omega) (by simp;omega) ?_)
   repeat refine stq rfl ?_
   refine ⟨j + 1,hlt,by omega,rfl,rfl,rfl,rfl,hwn1,rfl,?_,?_,trivial⟩
   ·rw [hs]
    refine Eq.trans (b := (1,some (Cont.mk 98 5 [[I rO,I rI,.als 200 (1 + (amF l m j).length + 1) 0 ((amF l m j).map eI ++ [eI ((j : Int) + 1)]).length,.fsl (sg.map eI),I rV]] 2))) rfl ?_
    rw [als_snoc eI 200 1 (amF l m j) ((j : Int) + 1)]
   ·rw [hs];exact cont_snoc eI 1 3 1 0 _ _
 ·have hz : j = l.length := by have := of_decide_eq_false h;omega
  subst hz
  repeat refine stq rfl ?_
  exact endc2f rfl rfl (by repeat' constructor) rfl rfl (by repeat' constructor) rfl
end Go.Pv


set_option maxHeartbeats 2000000
namespace Go.Pv
attribute [local irreducible] PWP POps PQuiet PSem XThen XBlock RetPost InlPost
open Go.Proofs
end Go.Pv


set_option maxHeartbeats 2000000
namespace Go.Pv
attribute [local irreducible] PWP POps PQuiet PSem XThen XBlock RetPost InlPost
open Go.Proofs
theorem clean_again {p : SPost} (h : inside p.op 0 8 = true) : cleanP (cleanP p) = cleanP p ∧ checkE (cleanP p) = checkE p ∧ ∀ l,refE l (cleanP p) = refE l p := by
 obtain ⟨op,day,o,i,s,w,a,r,ro⟩ := p
 rcases op_cases h with rfl | rfl | rfl | rfl | rfl | rfl | rfl | rfl | rfl <;> exact ⟨rfl,rfl,fun l => rfl⟩
theorem refusal_again {l : List SPost} {p : SPost} (h : refusalR l p = 0) : refusalR l (cleanP p) = 0 := by
 have h1 := refusalR_zero h
 obtain ⟨_,e2,e3⟩ := clean_again (checkE_op h1.1).1
 rw [refusalR,e2,(clean_op p).2,e3]
 rw [refusalR] at h
 exact h
theorem Acc.at_ {l : List SPost} (h : Acc l) : ∀ (j : Nat) p,l[j]? = some p → refusalR (l.take j) p = 0 ∧ cleanP p = p := by
 induction h with
 |nil => intro j p h;simp at h
 |snoc hl hr ih =>
  rename_i l q
  intro j p hp
  rcases snoc_get hp with ⟨hj,hp⟩ | ⟨rfl,rfl⟩
  ·have := ih j p hp
   rw [List.take_append_of_le_length (by omega)]
   exact this
  ·rw [List.take_left']
   ·exact ⟨refusal_again hr,(clean_again (checkE_op (refusalR_zero hr).1).1).1⟩
   ·rfl
theorem Acc.lod {l : List SPost} (h : Acc l) : lodN l = l.length ∧ lodE l = 0 ∧ lodL l = l := by
 have ht : ∀ j,(l.take j).map cleanP = l.take j := fun j => by
  have : ∀ (m : List SPost),(∀ p,p ∈ m → cleanP p = p) → m.map cleanP = m := fun m hm => by
   induction m with
   |nil => rfl
   |cons a m ih => rw [List.map_cons,hm a (by simp),ih fun p hp => hm p (by simp [hp])]
  refine this _ fun p hp => ?_
  obtain ⟨i,hi,rfl⟩ := List.getElem_of_mem (List.mem_of_mem_take hp)
  exact (h.at_ i _ (List.getElem?_eq_getElem hi)).2
 have hf : ∀ (j : Nat) b,l[j]? = some b → lodF l j b = 0 := fun j b hb => by
  rw [lodF,ht];exact (h.at_ j b hb).1
 have h1 : lodN l = l.length := fstN_none hf
 refine ⟨h1,fstE_none hf,?_⟩
 rw [lodL,h1,ht,List.take_length]
end Go.Pv


namespace Go.Proofs
open Go.Shelf
def Tryz.lays169_ren : Go.Shelf.Ren := ⟨fun | 169 => 79 | n => n,fun | 70 => 139 | 9 => 9 | 0 => 0 | 72 => 141 | 37 => 54 | 127 => 196 | 3 => 3 | 5 => 5 | n => n,fun | n => n⟩
theorem Tryz.lays169 : Go.Proofs.Lays.n169 Tryz.prog Tryz.lays169_ren := {
 mixed := by kernel_rfl
 f169 := Tryz.func79.trans (congrArg some (by kernel_rfl))
 t0 := Tryz.underlying0
 a0 := Tryz.isAgg0
 z0 := Tryz.sizeOf0
 v0 := Tryz.zeroValue0
 t3 := Tryz.underlying3
 a3 := Tryz.isAgg3
 z3 := Tryz.sizeOf3
 v3 := Tryz.zeroValue3
 t9 := Tryz.underlying9
 a9 := Tryz.isAgg9
 z9 := Tryz.sizeOf9
 v9 := Tryz.zeroValue9
 t37 := Tryz.underlying54
 a37 := Tryz.isAgg54
 z37 := Tryz.sizeOf54
 v37 := Tryz.zeroValue54
 t70 := Tryz.underlying139
 a70 := Tryz.isAgg139
 z70 := Tryz.sizeOf139
 v70 := Tryz.zeroValue139
 t72 := Tryz.underlying141
 a72 := Tryz.isAgg141
 z72 := Tryz.sizeOf141
 v72 := Tryz.zeroValue141
 t127 := Tryz.underlying196
 a127 := Tryz.isAgg196
 z127 := Tryz.sizeOf196
 v127 := Tryz.zeroValue196 }
theorem Tryz.Builder_Extra_169 : Builder.Extra Tryz.prog Tryz.lays169_ren := {
 sizeBuilder := by kernel_rfl
 liesBuilder := by kernel_rfl
 t5 := Tryz.underlying5
 a5 := Tryz.isAgg5
 z5 := Tryz.sizeOf5
 v5 := Tryz.zeroValue5
 infoByte := by kernel_rfl
 cellsByte := by kernel_rfl
 sizeByte := by kernel_rfl
 neB5 := by decide }
def Tryz.lays156_ren : Go.Shelf.Ren := ⟨fun | 156 => 115 | 165 => 152 | 166 => 78 | 169 => 79 | 240 => 128 | 241 => 178 | 276 => 164 | 277 => 215 | n => n,fun | 31 => 58 | 9 => 9 | 3 => 3 | 4 => 4 | 0 => 0 | 20 => 20 | 72 => 141 | 76 => 116 | 70 => 139 | 37 => 54 | 75 => 115 | 127 => 196 | 164 => 223 | 5 => 5 | 80 => 48 | n => n,fun | n => n⟩
theorem Tryz.lays156 : Go.Proofs.Lays.n156 Tryz.prog Tryz.lays156_ren := {
 mixed := by kernel_rfl
 f156 := Tryz.func115.trans (congrArg some (by kernel_rfl))
 f165 := Tryz.func152.trans (congrArg some (by kernel_rfl))
 f166 := Tryz.func78.trans (congrArg some (by kernel_rfl))
 f169 := Tryz.func79.trans (congrArg some (by kernel_rfl))
 f240 := Tryz.func128.trans (congrArg some (by kernel_rfl))
 f241 := Tryz.func178.trans (congrArg some (by kernel_rfl))
 f276 := Tryz.func164.trans (congrArg some (by kernel_rfl))
 f277 := Tryz.func215.trans (congrArg some (by kernel_rfl))
 t0 := Tryz.underlying0
 a0 := Tryz.isAgg0
 z0 := Tryz.sizeOf0
 v0 := Tryz.zeroValue0
 t3 := Tryz.underlying3
 a3 := Tryz.isAgg3
 z3 := Tryz.sizeOf3
 v3 := Tryz.zeroValue3
 t4 := Tryz.underlying4
 a4 := Tryz.isAgg4
 z4 := Tryz.sizeOf4
 v4 := Tryz.zeroValue4
 t9 := Tryz.underlying9
 a9 := Tryz.isAgg9
 z9 := Tryz.sizeOf9
 v9 := Tryz.zeroValue9
 t20 := Tryz.underlying20
 a20 := Tryz.isAgg20
 z20 := Tryz.sizeOf20
 v20 := Tryz.zeroValue20
 t31 := Tryz.underlying58
 a31 := Tryz.isAgg58
 z31 := Tryz.sizeOf58
 v31 := Tryz.zeroValue58
 t37 := Tryz.underlying54
 a37 := Tryz.isAgg54
 z37 := Tryz.sizeOf54
 v37 := Tryz.zeroValue54
 t70 := Tryz.underlying139
 a70 := Tryz.isAgg139
 z70 := Tryz.sizeOf139
 v70 := Tryz.zeroValue139
 t72 := Tryz.underlying141
 a72 := Tryz.isAgg141
 z72 := Tryz.sizeOf141
 v72 := Tryz.zeroValue141
 t75 := Tryz.underlying115
 a75 := Tryz.isAgg115
 z75 := Tryz.sizeOf115
 v75 := Tryz.zeroValue115
 t76 := Tryz.underlying116
 a76 := Tryz.isAgg116
 z76 := Tryz.sizeOf116
 v76 := Tryz.zeroValue116
 t127 := Tryz.underlying196
 a127 := Tryz.isAgg196
 z127 := Tryz.sizeOf196
 v127 := Tryz.zeroValue196
 t164 := Tryz.underlying223
 a164 := Tryz.isAgg223
 z164 := Tryz.sizeOf223
 v164 := Tryz.zeroValue223 }
theorem Tryz.Builder_Extra_156 : Builder.Extra Tryz.prog Tryz.lays156_ren := {
 sizeBuilder := by kernel_rfl
 liesBuilder := by kernel_rfl
 t5 := Tryz.underlying5
 a5 := Tryz.isAgg5
 z5 := Tryz.sizeOf5
 v5 := Tryz.zeroValue5
 infoByte := by kernel_rfl
 cellsByte := by kernel_rfl
 sizeByte := by kernel_rfl
 neB5 := by decide }
open Go.RowKit in
theorem Tryz.strings_Join_none (a : Option Addr) (c : Nat) (sep : ByteArray) (w : World) :
  Calls Tryz.prog 115 #[.slice a 0 c,.string sep] w fun e w' => e = .returned (.string ⟨#[]⟩) ∧ w' = w := Any.strings_Join_none Tryz.lays156 Tryz.Builder_Extra_156 a c sep w
open Go.RowKit in
theorem Tryz.strings_Join (bk o c : Nat) (xs : List ByteArray) (sep : ByteArray) (w : World) (hcells : ∀ (j : Nat) x,xs[j]? = some x → w.cell? ⟨bk,o + j,none⟩ = some (.string x)) (hbk : bk < w.heap.size) (hN : xs.length ≤ 140737488355328) (hcap : xs.length ≤ c) (hlen : (Lib.join (xs.map (·.data.toList)) sep.data.toList).length ≤ 140737488355328) :
  Calls Tryz.prog 115 #[.slice (some ⟨bk,o,none⟩) xs.length c,.string sep] w fun e w' => e = .returned (.string ⟨(Lib.join (xs.map (·.data.toList)) sep.data.toList).toArray⟩) ∧ Below w.heap.size w w' := Any.strings_Join Tryz.lays156 Tryz.Builder_Extra_156 bk o c xs sep w hcells hbk hN hcap hlen
def Tryz.lays137_ren : Go.Shelf.Ren := ⟨fun | 137 => 150 | 217 => 176 | 266 => 214 | n => n,fun | 9 => 9 | 5 => 5 | 3 => 3 | n => n,fun | n => n⟩
theorem Tryz.lays137 : Go.Proofs.Lays.n137 Tryz.prog Tryz.lays137_ren := {
 mixed := by kernel_rfl
 f137 := Tryz.func150.trans (congrArg some (by kernel_rfl))
 f217 := Tryz.func176.trans (congrArg some (by kernel_rfl))
 f266 := Tryz.func214.trans (congrArg some (by kernel_rfl))
 t3 := Tryz.underlying3
 a3 := Tryz.isAgg3
 z3 := Tryz.sizeOf3
 v3 := Tryz.zeroValue3
 t5 := Tryz.underlying5
 a5 := Tryz.isAgg5
 z5 := Tryz.sizeOf5
 v5 := Tryz.zeroValue5
 t9 := Tryz.underlying9
 a9 := Tryz.isAgg9
 z9 := Tryz.sizeOf9
 v9 := Tryz.zeroValue9 }
open Go.RowKit in
theorem Tryz.strings_IndexByte (s : ByteArray) (c : Int) (w : World) :
  Calls Tryz.prog 150 #[.string s,.int .u8 c] w fun e w' => e = .returned (.int .i64 (Lib.indexByte s.data.toList c.toNat.toUInt8)) ∧ w' = w := Any.strings_IndexByte Tryz.lays137 s c w
def Tryz.laysM171_ren : Go.Shelf.Ren := ⟨fun | 171 => 89 | 243 => 136 | 246 => 170 | 283 => 208 | 284 => 209 | 285 => 210 | 286 => 211 | 129 => 198 | 317 => 228 | 318 => 229 | 319 => 230 | 320 => 231 | 337 => 234 | 338 => 235 | n => n,fun | 3 => 3 | 9 => 9 | 2 => 2 | 4 => 4 | 171 => 259 | 0 => 0 | 53 => 237 | 37 => 54 | 5 => 5 | 173 => 261 | 212 => 284 | 51 => 252 | 20 => 20 | 213 => 285 | 46 => 227 | 232 => 290 | 233 => 291 | n => n,fun | 17 => 5 | 18 => 6 | 19 => 7 | n => n⟩
theorem Tryz.laysM171 : Go.Proofs.LaysM.n171 Tryz.prog Tryz.laysM171_ren := {
 mixed := by kernel_rfl
 f129 := Tryz.func198.trans (congrArg some (by kernel_rfl))
 f171 := Tryz.func89.trans (congrArg some (by kernel_rfl))
 f243 := Tryz.func136.trans (congrArg some (by kernel_rfl))
 f246 := Tryz.func170.trans (congrArg some (by kernel_rfl))
 f283 := Tryz.func208.trans (congrArg some (by kernel_rfl))
 f284 := Tryz.func209.trans (congrArg some (by kernel_rfl))
 f285 := Tryz.func210.trans (congrArg some (by kernel_rfl))
 f286 := Tryz.func211.trans (congrArg some (by kernel_rfl))
 f317 := Tryz.func228.trans (congrArg some (by kernel_rfl))
 f318 := Tryz.func229.trans (congrArg some (by kernel_rfl))
 f319 := Tryz.func230.trans (congrArg some (by kernel_rfl))
 f320 := Tryz.func231.trans (congrArg some (by kernel_rfl))
 f337 := Tryz.func234.trans (congrArg some (by kernel_rfl))
 f338 := Tryz.func235.trans (congrArg some (by kernel_rfl))
 t0 := Tryz.underlying0
 a0 := Tryz.isAgg0
 z0 := Tryz.sizeOf0
 v0 := Tryz.zeroValue0
 t2 := Tryz.underlying2
 a2 := Tryz.isAgg2
 z2 := Tryz.sizeOf2
 v2 := Tryz.zeroValue2
 t3 := Tryz.underlying3
 a3 := Tryz.isAgg3
 z3 := Tryz.sizeOf3
 v3 := Tryz.zeroValue3
 t4 := Tryz.underlying4
 a4 := Tryz.isAgg4
 z4 := Tryz.sizeOf4
 v4 := Tryz.zeroValue4
 t5 := Tryz.underlying5
 a5 := Tryz.isAgg5
 z5 := Tryz.sizeOf5
 v5 := Tryz.zeroValue5
 t9 := Tryz.underlying9
 a9 := Tryz.isAgg9
 z9 := Tryz.sizeOf9
 v9 := Tryz.zeroValue9
 t20 := Tryz.underlying20
 a20 := Tryz.isAgg20
 z20 := Tryz.sizeOf20
 v20 := Tryz.zeroValue20
 t37 := Tryz.underlying54
 a37 := Tryz.isAgg54
 z37 := Tryz.sizeOf54
 v37 := Tryz.zeroValue54
 t46 := Tryz.underlying227
 a46 := Tryz.isAgg227
 z46 := Tryz.sizeOf227
 v46 := Tryz.zeroValue227
 t51 := Tryz.underlying252
 a51 := Tryz.isAgg252
 z51 := Tryz.sizeOf252
 v51 := Tryz.zeroValue252
 t53 := Tryz.underlying237
 a53 := Tryz.isAgg237
 z53 := Tryz.sizeOf237
 v53 := Tryz.zeroValue237
 t171 := Tryz.underlying259
 a171 := Tryz.isAgg259
 z171 := Tryz.sizeOf259
 v171 := Tryz.zeroValue259
 t173 := Tryz.underlying261
 a173 := Tryz.isAgg261
 z173 := Tryz.sizeOf261
 v173 := Tryz.zeroValue261
 t212 := Tryz.underlying284
 a212 := Tryz.isAgg284
 z212 := Tryz.sizeOf284
 v212 := Tryz.zeroValue284
 t213 := Tryz.underlying285
 a213 := Tryz.isAgg285
 z213 := Tryz.sizeOf285
 t232 := Tryz.underlying290
 a232 := Tryz.isAgg290
 z232 := Tryz.sizeOf290
 v232 := Tryz.zeroValue290
 t233 := Tryz.underlying291
 a233 := Tryz.isAgg291
 z233 := Tryz.sizeOf291
 v233 := Tryz.zeroValue291
 g17 := by kernel_rfl
 g18 := by kernel_rfl
 g19 := by kernel_rfl
 i0 := by kernel_rfl
 i2 := by kernel_rfl
 i3 := by kernel_rfl
 i4 := by kernel_rfl
 i5 := by kernel_rfl
 i9 := by kernel_rfl
 i20 := by kernel_rfl
 i37 := by kernel_rfl
 i46 := by kernel_rfl
 i51 := by kernel_rfl
 i53 := by kernel_rfl
 i171 := by kernel_rfl
 i173 := by kernel_rfl
 i212 := by kernel_rfl
 i232 := by kernel_rfl
 i233 := by kernel_rfl
 m17 := by kernel_rfl
 m18 := by kernel_rfl
 m19 := by kernel_rfl }
open Go.RowKit Go.Sort Go.Lib in
theorem Tryz.strconv_Itoa (n : Int) (h0 : -9223372036854775808 ≤ n) (h1 : n ≤ 9223372036854775807) (w : World) (htab : Lib.TabIs Tryz.prog w "internal/strconv.uint64pow10" .u64 Lib.pow10Tab) :
  Calls Tryz.prog 89 #[.int .i64 n] w fun e w' => e = .returned (.string ⟨(Lib.itoa n).toArray⟩) ∧ ∃ k os,w' = grow (w.drewN k) os := Any.strconv_Itoa Tryz.laysM171 n h0 h1 w htab
def Tryz.laysC172_ren : Go.Shelf.Ren := ⟨fun | 172 => 62 | 244 => 117 | 245 => 118 | 247 => 156 | 279 => 157 | 280 => 158 | 281 => 159 | 282 => 160 | 287 => 181 | 316 => 182 | 171 => 89 | 205 => 183 | 321 => 216 | 322 => 217 | 243 => 136 | 246 => 170 | 283 => 208 | 284 => 209 | 285 => 210 | 286 => 211 | 129 => 198 | 317 => 228 | 318 => 229 | 319 => 230 | 320 => 231 | 337 => 234 | 338 => 235 | n => n,fun | 9 => 9 | 3 => 3 | 75 => 115 | 76 => 116 | 4 => 4 | 5 => 5 | 167 => 215 | 37 => 54 | 0 => 0 | 85 => 216 | 2 => 2 | 168 => 218 | 53 => 237 | 175 => 238 | 46 => 227 | 210 => 241 | 127 => 196 | 145 => 269 | 143 => 267 | 21 => 21 | 171 => 259 | 173 => 261 | 212 => 284 | 51 => 252 | 20 => 20 | 213 => 285 | 232 => 290 | 233 => 291 | 80 => 48 | n => n,fun | 15 => 0 | 16 => 1 | 17 => 5 | 18 => 6 | 19 => 7 | n => n⟩
theorem Tryz.laysC172 : Go.Proofs.LaysC.n172 Tryz.prog Tryz.laysC172_ren := {
 mixed := by kernel_rfl
 f129 := Tryz.func198.trans (congrArg some (by kernel_rfl))
 f171 := Tryz.func89.trans (congrArg some (by kernel_rfl))
 f172 := Tryz.func62.trans (congrArg some (by kernel_rfl))
 f205 := Tryz.func183.trans (congrArg some (by kernel_rfl))
 f243 := Tryz.func136.trans (congrArg some (by kernel_rfl))
 f244 := Tryz.func117.trans (congrArg some (by kernel_rfl))
 f245 := Tryz.func118.trans (congrArg some (by kernel_rfl))
 f246 := Tryz.func170.trans (congrArg some (by kernel_rfl))
 f247 := Tryz.func156.trans (congrArg some (by kernel_rfl))
 f279 := Tryz.func157.trans (congrArg some (by kernel_rfl))
 f280 := Tryz.func158.trans (congrArg some (by kernel_rfl))
 f281 := Tryz.func159.trans (congrArg some (by kernel_rfl))
 f282 := Tryz.func160.trans (congrArg some (by kernel_rfl))
 f283 := Tryz.func208.trans (congrArg some (by kernel_rfl))
 f284 := Tryz.func209.trans (congrArg some (by kernel_rfl))
 f285 := Tryz.func210.trans (congrArg some (by kernel_rfl))
 f286 := Tryz.func211.trans (congrArg some (by kernel_rfl))
 f287 := Tryz.func181.trans (congrArg some (by kernel_rfl))
 f316 := Tryz.func182.trans (congrArg some (by kernel_rfl))
 f317 := Tryz.func228.trans (congrArg some (by kernel_rfl))
 f318 := Tryz.func229.trans (congrArg some (by kernel_rfl))
 f319 := Tryz.func230.trans (congrArg some (by kernel_rfl))
 f320 := Tryz.func231.trans (congrArg some (by kernel_rfl))
 f321 := Tryz.func216.trans (congrArg some (by kernel_rfl))
 f322 := Tryz.func217.trans (congrArg some (by kernel_rfl))
 f337 := Tryz.func234.trans (congrArg some (by kernel_rfl))
 f338 := Tryz.func235.trans (congrArg some (by kernel_rfl))
 t0 := Tryz.underlying0
 a0 := Tryz.isAgg0
 z0 := Tryz.sizeOf0
 v0 := Tryz.zeroValue0
 t2 := Tryz.underlying2
 a2 := Tryz.isAgg2
 z2 := Tryz.sizeOf2
 v2 := Tryz.zeroValue2
 t3 := Tryz.underlying3
 a3 := Tryz.isAgg3
 z3 := Tryz.sizeOf3
 v3 := Tryz.zeroValue3
 t4 := Tryz.underlying4
 a4 := Tryz.isAgg4
 z4 := Tryz.sizeOf4
 v4 := Tryz.zeroValue4
 t5 := Tryz.underlying5
 a5 := Tryz.isAgg5
 z5 := Tryz.sizeOf5
 v5 := Tryz.zeroValue5
 t9 := Tryz.underlying9
 a9 := Tryz.isAgg9
 z9 := Tryz.sizeOf9
 v9 := Tryz.zeroValue9
 t20 := Tryz.underlying20
 a20 := Tryz.isAgg20
 z20 := Tryz.sizeOf20
 v20 := Tryz.zeroValue20
 t21 := Tryz.underlying21
 a21 := Tryz.isAgg21
 z21 := Tryz.sizeOf21
 v21 := Tryz.zeroValue21
 t37 := Tryz.underlying54
 a37 := Tryz.isAgg54
 z37 := Tryz.sizeOf54
 v37 := Tryz.zeroValue54
 t46 := Tryz.underlying227
 a46 := Tryz.isAgg227
 z46 := Tryz.sizeOf227
 v46 := Tryz.zeroValue227
 t51 := Tryz.underlying252
 a51 := Tryz.isAgg252
 z51 := Tryz.sizeOf252
 v51 := Tryz.zeroValue252
 t53 := Tryz.underlying237
 a53 := Tryz.isAgg237
 z53 := Tryz.sizeOf237
 v53 := Tryz.zeroValue237
 t75 := Tryz.underlying115
 a75 := Tryz.isAgg115
 z75 := Tryz.sizeOf115
 v75 := Tryz.zeroValue115
 t76 := Tryz.underlying116
 a76 := Tryz.isAgg116
 z76 := Tryz.sizeOf116
 v76 := Tryz.zeroValue116
 t85 := Tryz.underlying216
 a85 := Tryz.isAgg216
 z85 := Tryz.sizeOf216
 v85 := Tryz.zeroValue216
 t127 := Tryz.underlying196
 a127 := Tryz.isAgg196
 z127 := Tryz.sizeOf196
 v127 := Tryz.zeroValue196
 t143 := Tryz.underlying267
 a143 := Tryz.isAgg267
 z143 := Tryz.sizeOf267
 v143 := Tryz.zeroValue267
 t145 := Tryz.underlying269
 a145 := Tryz.isAgg269
 z145 := Tryz.sizeOf269
 v145 := Tryz.zeroValue269
 t167 := Tryz.underlying215
 a167 := Tryz.isAgg215
 z167 := Tryz.sizeOf215
 v167 := Tryz.zeroValue215
 t168 := Tryz.underlying218
 a168 := Tryz.isAgg218
 z168 := Tryz.sizeOf218
 v168 := Tryz.zeroValue218
 t171 := Tryz.underlying259
 a171 := Tryz.isAgg259
 z171 := Tryz.sizeOf259
 v171 := Tryz.zeroValue259
 t173 := Tryz.underlying261
 a173 := Tryz.isAgg261
 z173 := Tryz.sizeOf261
 v173 := Tryz.zeroValue261
 t175 := Tryz.underlying238
 a175 := Tryz.isAgg238
 z175 := Tryz.sizeOf238
 v175 := Tryz.zeroValue238
 t210 := Tryz.underlying241
 a210 := Tryz.isAgg241
 z210 := Tryz.sizeOf241
 v210 := Tryz.zeroValue241
 t212 := Tryz.underlying284
 a212 := Tryz.isAgg284
 z212 := Tryz.sizeOf284
 v212 := Tryz.zeroValue284
 t213 := Tryz.underlying285
 a213 := Tryz.isAgg285
 z213 := Tryz.sizeOf285
 t232 := Tryz.underlying290
 a232 := Tryz.isAgg290
 z232 := Tryz.sizeOf290
 v232 := Tryz.zeroValue290
 t233 := Tryz.underlying291
 a233 := Tryz.isAgg291
 z233 := Tryz.sizeOf291
 v233 := Tryz.zeroValue291
 g15 := by kernel_rfl
 g16 := by kernel_rfl
 g17 := by kernel_rfl
 g18 := by kernel_rfl
 g19 := by kernel_rfl
 t80 := Tryz.underlying48
 a80 := Tryz.isAgg48
 z80 := Tryz.sizeOf48
 v80 := Tryz.zeroValue48
 i0 := by kernel_rfl
 i2 := by kernel_rfl
 i3 := by kernel_rfl
 i4 := by kernel_rfl
 i5 := by kernel_rfl
 i9 := by kernel_rfl
 i20 := by kernel_rfl
 i21 := by kernel_rfl
 i37 := by kernel_rfl
 i46 := by kernel_rfl
 i51 := by kernel_rfl
 i53 := by kernel_rfl
 i75 := by kernel_rfl
 i76 := by kernel_rfl
 i80 := by kernel_rfl
 i85 := by kernel_rfl
 i127 := by kernel_rfl
 i143 := by kernel_rfl
 i145 := by kernel_rfl
 i167 := by kernel_rfl
 i168 := by kernel_rfl
 i171 := by kernel_rfl
 i173 := by kernel_rfl
 i175 := by kernel_rfl
 i210 := by kernel_rfl
 i212 := by kernel_rfl
 i232 := by kernel_rfl
 i233 := by kernel_rfl
 m15 := by kernel_rfl
 m16 := by kernel_rfl
 m17 := by kernel_rfl
 m18 := by kernel_rfl
 m19 := by kernel_rfl
 c0 := by kernel_rfl
 c2 := by kernel_rfl
 c3 := by kernel_rfl
 c4 := by kernel_rfl
 c5 := by kernel_rfl
 c9 := by kernel_rfl
 c20 := by kernel_rfl
 c21 := by kernel_rfl
 c37 := by kernel_rfl
 c46 := by kernel_rfl
 c51 := by kernel_rfl
 c53 := by kernel_rfl
 c75 := by kernel_rfl
 c76 := by kernel_rfl
 c80 := by kernel_rfl
 c85 := by kernel_rfl
 c127 := by kernel_rfl
 c143 := by kernel_rfl
 c145 := by kernel_rfl
 c167 := by kernel_rfl
 c168 := by kernel_rfl
 c171 := by kernel_rfl
 c173 := by kernel_rfl
 c175 := by kernel_rfl
 c210 := by kernel_rfl
 c212 := by kernel_rfl
 c213 := by kernel_rfl
 c232 := by kernel_rfl
 c233 := by kernel_rfl }
open Go.RowKit in
theorem Tryz.strconv_Atoi_ok (s : ByteArray) (hmax : s.size ≤ 9223372036854775806) (v : Int) (h : Lib.atoiAll s.data.toList = .ok v) (w : World) :
  Calls Tryz.prog 62 #[.string s] w fun e w' => e = .returned (.tuple #[.int .i64 v,.nilIface]) ∧ (w' = w ∨ ∃ t,w' = Lib.bytesWorld w 5 t) := Any.strconv_Atoi_ok Tryz.laysC172 s hmax v h w
open Go.RowKit in
theorem Tryz.strconv_Atoi_syntax (s : ByteArray) (hlim : s.size ≤ 281474976710656) (h : Lib.atoiAll s.data.toList = Lib.atoiAll []) (ev : Value) (w : World) (hv : w.cell? ⟨0,0,none⟩ = some ev) (hev : ev = .nilIface ∨ ∃ te pe,ev = .iface te pe) :
  Calls Tryz.prog 62 #[.string s] w fun e w' => ∃ N,e = .returned (.tuple #[.int .i64 (0),.iface 218 (.pointer (some ⟨N,0,none⟩))]) ∧ w.heap.size ≤ N ∧ w'.heap[N]? = some (.cells #[.string ⟨#[65,116,111,105]⟩,.string s,ev] 241 (0,0)) ∧ Below w.heap.size w w' := Any.strconv_Atoi_syntax Tryz.laysC172 s hlim h ev w hv hev
open Go.RowKit in
theorem Tryz.strconv_Atoi_range (s : ByteArray) (hlim : s.size ≤ 281474976710656) (h : Lib.atoiAll s.data.toList = .range) (ev : Value) (w : World) (hv : w.cell? ⟨1,0,none⟩ = some ev) (hev : ev = .nilIface ∨ ∃ te pe,ev = .iface te pe) :
  Calls Tryz.prog 62 #[.string s] w fun e w' => ∃ N,e = .returned (.tuple #[.int .i64 (Lib.atoiSat s.data.toList),.iface 218 (.pointer (some ⟨N,0,none⟩))]) ∧ w.heap.size ≤ N ∧ w'.heap[N]? = some (.cells #[.string ⟨#[65,116,111,105]⟩,.string s,ev] 241 (0,0)) ∧ Below w.heap.size w w' := Any.strconv_Atoi_range Tryz.laysC172 s hlim h ev w hv hev
def Tryz.lays143_ren : Go.Shelf.Ren := ⟨fun | 143 => 155 | 219 => 163 | 217 => 176 | 225 => 185 | 224 => 186 | 267 => 187 | 266 => 214 | 314 => 218 | n => n,fun | 9 => 9 | 3 => 3 | 4 => 4 | 5 => 5 | 46 => 227 | 146 => 274 | 51 => 252 | n => n,fun | 1 => 2 | n => n⟩
theorem Tryz.lays143 : Go.Proofs.Lays.n143 Tryz.prog Tryz.lays143_ren := {
 mixed := by kernel_rfl
 f143 := Tryz.func155.trans (congrArg some (by kernel_rfl))
 f217 := Tryz.func176.trans (congrArg some (by kernel_rfl))
 f219 := Tryz.func163.trans (congrArg some (by kernel_rfl))
 f224 := Tryz.func186.trans (congrArg some (by kernel_rfl))
 f225 := Tryz.func185.trans (congrArg some (by kernel_rfl))
 f266 := Tryz.func214.trans (congrArg some (by kernel_rfl))
 f267 := Tryz.func187.trans (congrArg some (by kernel_rfl))
 f314 := Tryz.func218.trans (congrArg some (by kernel_rfl))
 t3 := Tryz.underlying3
 a3 := Tryz.isAgg3
 z3 := Tryz.sizeOf3
 v3 := Tryz.zeroValue3
 t4 := Tryz.underlying4
 a4 := Tryz.isAgg4
 z4 := Tryz.sizeOf4
 v4 := Tryz.zeroValue4
 t5 := Tryz.underlying5
 a5 := Tryz.isAgg5
 z5 := Tryz.sizeOf5
 v5 := Tryz.zeroValue5
 t9 := Tryz.underlying9
 a9 := Tryz.isAgg9
 z9 := Tryz.sizeOf9
 v9 := Tryz.zeroValue9
 t46 := Tryz.underlying227
 a46 := Tryz.isAgg227
 z46 := Tryz.sizeOf227
 v46 := Tryz.zeroValue227
 t51 := Tryz.underlying252
 a51 := Tryz.isAgg252
 z51 := Tryz.sizeOf252
 v51 := Tryz.zeroValue252
 t146 := Tryz.underlying274
 a146 := Tryz.isAgg274
 z146 := Tryz.sizeOf274
 v146 := Tryz.zeroValue274
 g1 := by kernel_rfl }
open Go.RowKit Go.Lib in
theorem Tryz.strings_Index_one (s : ByteArray) (c : UInt8) (w : World) :
  Calls Tryz.prog 155 #[.string s,.string ⟨#[c]⟩] w fun e w' => e = .returned (.int .i64 (Lib.indexByte s.data.toList c)) ∧ w' = w := Any.strings_Index_one Tryz.lays143 s c w
def Tryz.lays145_ren : Go.Shelf.Ren := ⟨fun | 145 => 75 | 220 => 126 | 219 => 163 | 217 => 176 | 225 => 185 | 224 => 186 | 267 => 187 | 266 => 214 | 314 => 218 | n => n,fun | 9 => 9 | 4 => 4 | 59 => 135 | 3 => 3 | 5 => 5 | 46 => 227 | 146 => 274 | 51 => 252 | n => n,fun | 1 => 2 | n => n⟩
theorem Tryz.lays145 : Go.Proofs.Lays.n145 Tryz.prog Tryz.lays145_ren := {
 mixed := by kernel_rfl
 f145 := Tryz.func75.trans (congrArg some (by kernel_rfl))
 f217 := Tryz.func176.trans (congrArg some (by kernel_rfl))
 f219 := Tryz.func163.trans (congrArg some (by kernel_rfl))
 f220 := Tryz.func126.trans (congrArg some (by kernel_rfl))
 f224 := Tryz.func186.trans (congrArg some (by kernel_rfl))
 f225 := Tryz.func185.trans (congrArg some (by kernel_rfl))
 f266 := Tryz.func214.trans (congrArg some (by kernel_rfl))
 f267 := Tryz.func187.trans (congrArg some (by kernel_rfl))
 f314 := Tryz.func218.trans (congrArg some (by kernel_rfl))
 t3 := Tryz.underlying3
 a3 := Tryz.isAgg3
 z3 := Tryz.sizeOf3
 v3 := Tryz.zeroValue3
 t4 := Tryz.underlying4
 a4 := Tryz.isAgg4
 z4 := Tryz.sizeOf4
 v4 := Tryz.zeroValue4
 t5 := Tryz.underlying5
 a5 := Tryz.isAgg5
 z5 := Tryz.sizeOf5
 v5 := Tryz.zeroValue5
 t9 := Tryz.underlying9
 a9 := Tryz.isAgg9
 z9 := Tryz.sizeOf9
 v9 := Tryz.zeroValue9
 t46 := Tryz.underlying227
 a46 := Tryz.isAgg227
 z46 := Tryz.sizeOf227
 v46 := Tryz.zeroValue227
 t51 := Tryz.underlying252
 a51 := Tryz.isAgg252
 z51 := Tryz.sizeOf252
 v51 := Tryz.zeroValue252
 t59 := Tryz.underlying135
 a59 := Tryz.isAgg135
 z59 := Tryz.sizeOf135
 v59 := Tryz.zeroValue135
 t146 := Tryz.underlying274
 a146 := Tryz.isAgg274
 z146 := Tryz.sizeOf274
 v146 := Tryz.zeroValue274
 g1 := by kernel_rfl }
open Go.RowKit Go.Lib in
theorem Tryz.strings_Cut (s sep : ByteArray) (m : Int) (w : World) (hs : s.size < 4294967281) (hm : w.cell? ⟨2,0,none⟩ = some (.int .i64 m)) :
  Calls Tryz.prog 75 #[.string s,.string sep] w fun e w' => e = .returned (.tuple #[.string ⟨(Lib.cut s.data.toList sep.data.toList).1.toArray⟩,.string ⟨(Lib.cut s.data.toList sep.data.toList).2.1.toArray⟩,.bool (Lib.cut s.data.toList sep.data.toList).2.2]) ∧ ∃ n,w' = w.drewN n := Any.strings_Cut Tryz.lays145 s sep m w hs hm
def Tryz.lays138_ren : Go.Shelf.Ren := ⟨fun | 138 => 154 | 195 => 179 | 218 => 180 | 143 => 155 | 219 => 163 | 217 => 176 | 225 => 185 | 224 => 186 | 267 => 187 | 266 => 214 | 314 => 218 | n => n,fun | 9 => 9 | 3 => 3 | 4 => 4 | 5 => 5 | 0 => 0 | 46 => 227 | 146 => 274 | 51 => 252 | n => n,fun | 1 => 2 | n => n⟩
theorem Tryz.lays138 : Go.Proofs.Lays.n138 Tryz.prog Tryz.lays138_ren := {
 mixed := by kernel_rfl
 f138 := Tryz.func154.trans (congrArg some (by kernel_rfl))
 f143 := Tryz.func155.trans (congrArg some (by kernel_rfl))
 f195 := Tryz.func179.trans (congrArg some (by kernel_rfl))
 f217 := Tryz.func176.trans (congrArg some (by kernel_rfl))
 f218 := Tryz.func180.trans (congrArg some (by kernel_rfl))
 f219 := Tryz.func163.trans (congrArg some (by kernel_rfl))
 f224 := Tryz.func186.trans (congrArg some (by kernel_rfl))
 f225 := Tryz.func185.trans (congrArg some (by kernel_rfl))
 f266 := Tryz.func214.trans (congrArg some (by kernel_rfl))
 f267 := Tryz.func187.trans (congrArg some (by kernel_rfl))
 f314 := Tryz.func218.trans (congrArg some (by kernel_rfl))
 t0 := Tryz.underlying0
 a0 := Tryz.isAgg0
 z0 := Tryz.sizeOf0
 v0 := Tryz.zeroValue0
 t3 := Tryz.underlying3
 a3 := Tryz.isAgg3
 z3 := Tryz.sizeOf3
 v3 := Tryz.zeroValue3
 t4 := Tryz.underlying4
 a4 := Tryz.isAgg4
 z4 := Tryz.sizeOf4
 v4 := Tryz.zeroValue4
 t5 := Tryz.underlying5
 a5 := Tryz.isAgg5
 z5 := Tryz.sizeOf5
 v5 := Tryz.zeroValue5
 t9 := Tryz.underlying9
 a9 := Tryz.isAgg9
 z9 := Tryz.sizeOf9
 v9 := Tryz.zeroValue9
 t46 := Tryz.underlying227
 a46 := Tryz.isAgg227
 z46 := Tryz.sizeOf227
 v46 := Tryz.zeroValue227
 t51 := Tryz.underlying252
 a51 := Tryz.isAgg252
 z51 := Tryz.sizeOf252
 v51 := Tryz.zeroValue252
 t146 := Tryz.underlying274
 a146 := Tryz.isAgg274
 z146 := Tryz.sizeOf274
 v146 := Tryz.zeroValue274
 g1 := by kernel_rfl }
open Go.RowKit Go.Lib in
theorem Tryz.strings_Count_one (s : ByteArray) (c : UInt8) (w : World) :
  Calls Tryz.prog 154 #[.string s,.string ⟨#[c]⟩] w fun e w' => e = .returned (.int .i64 (Lib.countByte s.data.toList c)) ∧ w' = w := Any.strings_Count_one Tryz.lays138 s c w
def Tryz.lays221_ren : Go.Shelf.Ren := ⟨fun | 221 => 116 | 268 => 153 | 138 => 154 | 143 => 155 | 195 => 179 | 197 => 162 | 218 => 180 | 219 => 163 | 260 => 184 | 217 => 176 | 225 => 185 | 224 => 186 | 267 => 187 | 266 => 214 | 314 => 218 | n => n,fun | 9 => 9 | 3 => 3 | 31 => 58 | 4 => 4 | 0 => 0 | 105 => 221 | 21 => 21 | 5 => 5 | 46 => 227 | 119 => 270 | 139 => 273 | 138 => 272 | 146 => 274 | 51 => 252 | n => n,fun | 1 => 2 | 3 => 3 | 4 => 4 | n => n⟩
theorem Tryz.lays221 : Go.Proofs.Lays.n221 Tryz.prog Tryz.lays221_ren := {
 mixed := by kernel_rfl
 f138 := Tryz.func154.trans (congrArg some (by kernel_rfl))
 f143 := Tryz.func155.trans (congrArg some (by kernel_rfl))
 f195 := Tryz.func179.trans (congrArg some (by kernel_rfl))
 f197 := Tryz.func162.trans (congrArg some (by kernel_rfl))
 f217 := Tryz.func176.trans (congrArg some (by kernel_rfl))
 f218 := Tryz.func180.trans (congrArg some (by kernel_rfl))
 f219 := Tryz.func163.trans (congrArg some (by kernel_rfl))
 f221 := Tryz.func116.trans (congrArg some (by kernel_rfl))
 f224 := Tryz.func186.trans (congrArg some (by kernel_rfl))
 f225 := Tryz.func185.trans (congrArg some (by kernel_rfl))
 f260 := Tryz.func184.trans (congrArg some (by kernel_rfl))
 f266 := Tryz.func214.trans (congrArg some (by kernel_rfl))
 f267 := Tryz.func187.trans (congrArg some (by kernel_rfl))
 f268 := Tryz.func153.trans (congrArg some (by kernel_rfl))
 f314 := Tryz.func218.trans (congrArg some (by kernel_rfl))
 t0 := Tryz.underlying0
 a0 := Tryz.isAgg0
 z0 := Tryz.sizeOf0
 v0 := Tryz.zeroValue0
 t3 := Tryz.underlying3
 a3 := Tryz.isAgg3
 z3 := Tryz.sizeOf3
 v3 := Tryz.zeroValue3
 t4 := Tryz.underlying4
 a4 := Tryz.isAgg4
 z4 := Tryz.sizeOf4
 v4 := Tryz.zeroValue4
 t5 := Tryz.underlying5
 a5 := Tryz.isAgg5
 z5 := Tryz.sizeOf5
 v5 := Tryz.zeroValue5
 t9 := Tryz.underlying9
 a9 := Tryz.isAgg9
 z9 := Tryz.sizeOf9
 v9 := Tryz.zeroValue9
 t21 := Tryz.underlying21
 a21 := Tryz.isAgg21
 z21 := Tryz.sizeOf21
 v21 := Tryz.zeroValue21
 t31 := Tryz.underlying58
 a31 := Tryz.isAgg58
 z31 := Tryz.sizeOf58
 v31 := Tryz.zeroValue58
 t46 := Tryz.underlying227
 a46 := Tryz.isAgg227
 z46 := Tryz.sizeOf227
 v46 := Tryz.zeroValue227
 t51 := Tryz.underlying252
 a51 := Tryz.isAgg252
 z51 := Tryz.sizeOf252
 v51 := Tryz.zeroValue252
 t105 := Tryz.underlying221
 a105 := Tryz.isAgg221
 z105 := Tryz.sizeOf221
 v105 := Tryz.zeroValue221
 t119 := Tryz.underlying270
 a119 := Tryz.isAgg270
 z119 := Tryz.sizeOf270
 t138 := Tryz.underlying272
 a138 := Tryz.isAgg272
 z138 := Tryz.sizeOf272
 v138 := Tryz.zeroValue272
 t139 := Tryz.underlying273
 a139 := Tryz.isAgg273
 z139 := Tryz.sizeOf273
 v139 := Tryz.zeroValue273
 t146 := Tryz.underlying274
 a146 := Tryz.isAgg274
 z146 := Tryz.sizeOf274
 v146 := Tryz.zeroValue274
 g1 := by kernel_rfl
 g3 := by kernel_rfl
 g4 := by kernel_rfl }
end Go.Proofs


set_option maxHeartbeats 2000000
namespace Go.Pv
attribute [local irreducible] PWP POps PQuiet PSem XThen XBlock RetPost InlPost
open Go.Proofs Go.RowKit
theorem itoa_ret (n : Int) (h0 : -9223372036854775808 ≤ n) (h1 : n ≤ 9223372036854775807) : Ret Tryz.prog .shared 89 [I n] (.str (Lib.itoa n)) := by
 refine ⟨⟨_,Go.Proofs.Tryz.func89,by decide,rfl⟩,fun w X args hg hX hl hargs => ?_⟩
 match args,hl with
 |[v],_ =>
  have hv := hargs 0 _ v rfl rfl
  cases hv
  have hg := pow_of hg
  refine (Go.Proofs.Tryz.strconv_Itoa n h0 h1 w hg).mono ?_
  rintro e w' ⟨rfl,k,os,rfl⟩
  exact ⟨_,rfl,Lib.below_grow w.heap.size w (Nat.le_refl _) k os,.str _⟩
theorem join_ret (xs : List Str) (sep : Str) (hN : xs.length ≤ 140737488355328) (hlen : (Lib.join xs sep).length ≤ 140737488355328) : Ret Tryz.prog .shared 115 [.sl (xs.map eS),.str sep] (.str (Lib.join xs sep)) := by
 refine ⟨⟨_,Go.Proofs.Tryz.func115,by decide,rfl⟩,fun w X args hg hX hl hargs => ?_⟩
 match args,hl with
 |[v,u],_ =>
  have hv := hargs 0 _ v rfl rfl
  have hu := hargs 1 _ u rfl rfl
  cases hu
  generalize hr : xs.map eS = rows at hv
  cases hv with
  |sl0 a cap =>
   have : xs = [] := by simpa using hr
   subst this
   refine (Go.Proofs.Tryz.strings_Join_none a cap ⟨sep.toArray⟩ w).mono ?_
   rintro e w' ⟨rfl,rfl⟩
   exact ⟨_,rfl,Below.refl _ _,.str _⟩
  |sl rows b off cap sz vals hb hs hcap hrow hcell hrep =>
   subst hr
   rw [List.length_map] at hcap ⊢
   have hsz : xs ≠ [] → sz = 1 := fun hne => by
    cases xs with
    |nil => exact absurd rfl hne
    |cons x xs => exact (hrow (eS x) (by simp)).symm
   have hmap : (xs.map fun s => (⟨s.toArray⟩ : ByteArray)).map (·.data.toList) = xs := by
    rw [List.map_map]
    exact (List.map_congr_left fun s _ => by simp).trans (List.map_id xs)
   have h := Go.Proofs.Tryz.strings_Join b off cap (xs.map fun s => ⟨s.toArray⟩) ⟨sep.toArray⟩ w (fun j x hx => by
    rw [List.getElem?_map,Option.map_eq_some_iff] at hx
    obtain ⟨s,hs,rfl⟩ := hx
    have hne : xs ≠ [] := fun e => by rw [e] at hs;simp at hs
    have h1 := hcell j 0 (eS s) (.str s) (by rw [List.getElem?_map,hs];rfl) rfl
    have h2 := hrep j 0 (eS s) (.str s) (by rw [List.getElem?_map,hs];rfl) rfl
    have h3 : vals j 0 = .string ⟨s.toArray⟩ := (Rep.d (E := ⟨w,_,fun _ => False,fun _ => 0,fun _ => none⟩) h2).str_inv
    rw [h3,hsz hne,Nat.mul_one,Nat.add_zero] at h1
    exact h1.1) hb.1 (by simpa using hN) (by simpa using hcap) (by rw [hmap];simpa using hlen)
   rw [hmap,List.length_map] at h
   refine h.mono ?_
   rintro e w' ⟨rfl,hbel⟩
   exact ⟨_,rfl,hbel,.str _⟩
end Go.Pv


set_option maxHeartbeats 2000000
namespace Go.Pv
attribute [local irreducible] PWP POps PQuiet PSem XThen XBlock RetPost InlPost
open Go.Proofs
def wordOf (op : Int) : Str := ([[111,114,100,101,114],[105,116,101,109],[103,114,111,119,116,104],[99,104,97,114,103,101],[115,105,103,110],[97,109,101,110,100],[105,110,118,111,105,99,101],[112,97,121],[119,105,116,104,100,114,97,119]] : List Str).getD op.toNat []
def wordL : List Str := [[111,114,100,101,114],[105,116,101,109],[103,114,111,119,116,104],[99,104,97,114,103,101],[115,105,103,110],[97,109,101,110,100],[105,110,118,111,105,99,101],[112,97,121],[119,105,116,104,100,114,97,119]]
theorem words_ret : Ret Tryz.prog .fresh 64 [] (.sl (wordL.map eS)) := by
 refine Ret.of_pwp layOk mixed Go.Proofs.Tryz.func64 rfl (by decide) rfl rfl ?_
 repeat refine stq rfl ?_
 refine qst rfl rfl (q_slit rfl rfl rfl rfl rfl rfl rfl rfl rfl rfl (by repeat' constructor) rfl) ?_
 repeat refine stq rfl ?_
 exact end1f rfl rfl rfl trivial rfl
def Fd.out (p : SPost) (f : Fd) : Str := match f with
 |.o | .i | .s | .w => f.txt p
 |.a _ _ | .r _ _ | .l _ _ => Lib.itoa (f.num p)
def outL (p : SPost) (k : Nat) : List Str := [Lib.itoa p.day,wordOf p.op] ++ ((fdsOf p.op).take k).map (Fd.out p)
def textP (p : SPost) : Str := Lib.join (outL p (fdsOf p.op).length) [32]
theorem nDigits_le : ∀ (u : Nat),Lib.nDigits u ≤ u + 1 := fun u => by
 induction u using Nat.strongRecOn with
 |_ u ih =>
  by_cases h : u < 10
  ·rw [Lib.nDigits_small h];omega
  ·rw [Lib.nDigits_big h]
   have := ih (u / 10) (by omega)
   omega
theorem itoa_len {n : Int} (h0 : -1000000000 ≤ n) (h1 : n ≤ 1000000000) : (Lib.itoa n).length ≤ 1000000010 := by
 rw [Lib.itoa]
 split
 ·rw [List.length_cons,Lib.decDigits_length]
  have := nDigits_le n.natAbs
  omega
 ·rw [Lib.decDigits_length]
  have := nDigits_le n.toNat
  omega
theorem lens_le {xs : List Str} {c : Nat} (h : ∀ x,x ∈ xs → x.length ≤ c) : Lib.lens xs ≤ xs.length * c := by
 unfold Lib.lens
 induction xs with
 |nil => simp
 |cons x xs ih =>
  have h1 := h x (by simp)
  have := ih fun y hy => h y (by simp [hy])
  simp only [List.map_cons,List.sum_cons,List.length_cons,Nat.add_mul,Nat.one_mul]
  omega
theorem fdsOf_lim {op : Int} {f : Fd} (h : f ∈ fdsOf op) (hi : inside op 0 8 = true) : match f with
  |.a lo hi | .r lo hi | .l lo hi => -1000000000 ≤ lo ∧ hi ≤ 1000000000
  |_ => True := by
 rcases op_cases hi with rfl | rfl | rfl | rfl | rfl | rfl | rfl | rfl | rfl <;> clear hi <;> simp [fdsOf] at h <;> rcases h with rfl | rfl | rfl | rfl <;> simp
def Fd.fine (p : SPost) (f : Fd) : Prop := match f with
  |.a _ _ | .r _ _ | .l _ _ => -1000000000 ≤ f.num p ∧ f.num p ≤ 1000000000
  |_ => (f.txt p).length ≤ 12
theorem num_lim {p : SPost} (hc : checkE p = 0) {k : Nat} {f : Fd} (hf : (fdsOf p.op)[k]? = some f) : f.fine p := by
 have h1 := checkE_op hc
 have he := fstE_zero h1.2.2 k f hf
 have hl := fdsOf_lim (List.mem_of_getElem? hf) h1.1
 have nm : ∀ s : Str,(if isName s = true then (0 : Int) else 4) = 0 → s.length ≤ 12 := fun s h => by
  by_cases hn : isName s = true
  ·simp only [isName,Bool.and_eq_true,decide_eq_true_eq] at hn;omega
  ·rw [if_neg hn] at h;omega
 have nb : ∀ n lo hi : Int,(if inside n lo hi = true then (0 : Int) else 2) = 0 → lo ≤ n ∧ n ≤ hi := fun n lo hi h => by
  by_cases hn : inside n lo hi = true
  ·simpa [inside] using hn
  ·rw [if_neg hn] at h;omega
 cases f with
 |o => exact nm _ he
 |i => exact nm _ he
 |s => exact nm _ he
 |w => exact nm _ he
 |a lo hi => have := nb _ _ _ he;have hl : _ ∧ _ := hl;exact ⟨by omega,by omega⟩
 |r lo hi => have := nb _ _ _ he;have hl : _ ∧ _ := hl;exact ⟨by omega,by omega⟩
 |l lo hi => have := nb _ _ _ he;have hl : _ ∧ _ := hl;exact ⟨by omega,by omega⟩
theorem textP_len {p : SPost} (hc : checkE p = 0) : (textP p).length ≤ 140737488355328 := by
 have h1 := checkE_op hc
 have hfl := fdsOf_len p.op
 have hd : (Lib.itoa p.day).length ≤ 1000000010 := by
  have := h1.2.1
  simp only [inside,Bool.and_eq_true,decide_eq_true_eq] at this
  exact itoa_len (by omega) (by omega)
 have hw : (wordOf p.op).length ≤ 1000000010 := by
  rcases op_cases h1.1 with h | h | h | h | h | h | h | h | h <;> rw [h] <;> decide
 have hall : ∀ x,x ∈ outL p (fdsOf p.op).length → x.length ≤ 1000000010 := by
  intro x hx
  rw [outL,List.take_length] at hx
  simp only [List.cons_append,List.nil_append,List.mem_cons,List.mem_map] at hx
  rcases hx with rfl | rfl | ⟨f,hf,rfl⟩
  ·exact hd
  ·exact hw
  ·obtain ⟨k,hk,hfe⟩ := List.getElem_of_mem hf
   have := num_lim hc (k := k) (f := f) (by rw [← hfe];exact List.getElem?_eq_getElem hk)
   cases f
   case a => exact itoa_len this.1 this.2
   case r => exact itoa_len this.1 this.2
   case l => exact itoa_len this.1 this.2
   all_goals (have h' : (_ : Nat) ≤ 12 := this;exact Nat.le_trans h' (by omega))
 have hll : (outL p (fdsOf p.op).length).length = 2 + (fdsOf p.op).length := by simp [outL];omega
 have hs := lens_le hall
 rw [textP]
 generalize hL : outL p (fdsOf p.op).length = L at *
 cases L with
 |nil => simp [Lib.join_nil]
 |cons x r =>
  rw [Lib.join_length]
  simp only [List.length_cons,List.length_nil] at *
  omega
end Go.Pv


set_option maxHeartbeats 2000000
namespace Go.Pv
attribute [local irreducible] PWP POps PQuiet PSem XThen XBlock RetPost InlPost
open Go.Proofs
theorem outL_succ (p : SPost) {k : Nat} {f : Fd} (h : (fdsOf p.op)[k]? = some f) : outL p (k + 1) = outL p k ++ [f.out p] := by
 rw [outL,outL,take_snoc h,List.map_append];simp
set_option maxRecDepth 20000 in
theorem written_ret (p : SPost) (hc : checkE p = 0) : Ret Tryz.prog .shared 56 [.agg (ePost p)] (.str (textP p)) := by
 have h1 := checkE_op hc
 have hfl := fdsOf_len p.op
 have htl : ((fdsOf p.op).map Fd.tm).length = (fdsOf p.op).length := List.length_map _
 have hday := h1.2.1
 simp only [inside,Bool.and_eq_true,decide_eq_true_eq] at hday
 have hit := itoa_ret p.day (by omega) (by omega)
 have hop := op_cases h1.1
 have hop0 : 0 ≤ p.op := by omega
 have hw : wordL[p.op.toNat]? = some (wordOf p.op) := by
  rcases hop with h | h | h | h | h | h | h | h | h <;> rw [h] <;> rfl
 have hj := join_ret (outL p (fdsOf p.op).length) [32] (by simp [outL];omega) (textP_len hc)
 have hlims := fun (k : Nat) (f : Fd) (h : (fdsOf p.op)[k]? = some f) => num_lim hc h
 have houts := fun (k : Nat) (f : Fd) (h : (fdsOf p.op)[k]? = some f) => outL_succ p h
 rw [textP]
 have ho0 : outL p 0 = [Lib.itoa p.day,wordOf p.op] := rfl
 clear hop h1 hday hc
 generalize Lib.itoa p.day = dy at *
 generalize wordOf p.op = wd at *
 refine Ret.of_pwp layOk mixed Go.Proofs.Tryz.func56 rfl (by decide) rfl rfl ?_
 ((repeat (first | refine ps_nil ?_ | refine pq_nil ?_ | refine x_norm ?_ | refine pw_seq ?_));refine pw_region ?_)
 refine ps_run (o_box rfl rfl rfl (by repeat' constructor) rfl ?_)
 repeat refine stq rfl ?_
 refine pw_draw 8 [6,7,8,9,10,11,12,13] (by decide +kernel) ?_
 repeat refine stq rfl ?_
 refine qst rfl rfl (q_cp rfl hit rfl rfl rfl) ?_
 repeat refine stq rfl ?_
 refine qst rfl rfl (q_cf rfl words_ret rfl rfl) ?_
 repeat refine stq rfl ?_
 refine qst rfl rfl (q_idxmF rfl rfl rfl rfl rfl (by omega) hw rfl) ?_
 repeat refine stq rfl ?_
 refine ps_run (o_slit 0 rfl rfl rfl rfl rfl rfl rfl rfl rfl rfl rfl (by repeat' constructor) rfl ?_)
 refine ps_v rfl trivial ?_
 refine ps_nil ?_
 ((repeat (first | refine x_norm ?_ | refine pw_seq ?_));refine pw_regionS 0 ?_)
 refine ps_nil ?_
 refine psem_sm rfl (sm_callP ((fdsOf p.op).map Fd.tm) (fun b off => fields_tm b off p.op) rfl rfl rfl rfl rfl rfl (fdsOf_tm_ok p.op) rfl ?_)
 refine psem_ops ?_
 rw [htl]
 repeat refine stq rfl ?_
 have hrow : ∀ (k : Nat) (f : Fd),(fdsOf p.op)[k]? = some f → (((fdsOf p.op).map Fd.tm).map fun r => r.map (TC.inst fun o => PV.ptr 1 1 0 o))[0 + (k : Int).toNat]? = some (f.tm.map (TC.inst fun o => PV.ptr 1 1 0 o)) := fun k f h => by
  rw [List.getElem?_map,List.getElem?_map,Int.toNat_natCast,Nat.zero_add,h];rfl
 generalize (((fdsOf p.op).map Fd.tm).map fun r => r.map (TC.inst fun o => PV.ptr 1 1 0 o)) = rows at hrow
 generalize fdsOf p.op = fs at *
 refine pw_loop (fun k => k ≤ fs.length) (fun k => [(1,.ptr 1 1 0 0),(3,.als 14 (1 + k) 0 ((outL p k).map eS).length),(15,.als 15 1 0 fs.length),(16,I fs.length),(17,I k)]) (fun k => [(1,1,⟨23,9,[ePost p],2⟩),(14,1 + k,⟨9,1,(outL p k).map eS,0⟩),(15,1,⟨125,4,rows,2⟩)]) (fun k => fs.length - k) 0 (Nat.zero_le _) ⟨rfl,by rw [ho0];rfl,rfl,rfl,rfl,rfl,by rw [ho0];rfl,rfl,trivial⟩ ?_
 intro k s hk
 have hk : k ≤ fs.length := hk
 repeat refine stq rfl ?_
 refine pw_cond rfl (fun h => ?_) (fun h => ?_)
 ·have hlt : k < fs.length := by have := of_decide_eq_true h;omega
  clear h
  obtain ⟨f,hf⟩ := get_lt hlt
  have hr := hrow k f hf
  have hlim := hlims k f hf
  have hs := houts k f hf
  have hol : (outL p k).length ≤ 10 := by rw [outL];simp;omega
  clear hrow hlims houts hj
  cases f
  case o =>
   repeat refine stq rfl ?_
   refine qst rfl rfl (q_idxA rfl rfl rfl rfl rfl rfl rfl (by omega) (by omega)) ?_
   refine qst rfl rfl (q_ldp rfl rfl rfl hr rfl) ?_
   repeat refine stq rfl ?_
   refine qst rfl rfl (q_slit rfl rfl rfl rfl rfl rfl rfl rfl rfl rfl (by repeat' constructor) rfl) ?_
   repeat refine stq rfl ?_
   refine ps_run (o_app 0 rfl rfl rfl rfl rfl rfl rfl rfl rfl rfl rfl (by repeat' constructor) (by intro row hr;first | (simp at hr;subst hr;rfl) | simp at hr) rfl rfl (by simp;omega) (by simp;omega) ?_)
   repeat refine stq rfl ?_
   refine ⟨k + 1,hlt,by omega,rfl,?_,rfl,rfl,i64_next (by omega) (by omega),rfl,?_,rfl,trivial⟩
   ·rw [hs,List.map_append];rfl
   ·rw [hs,List.map_append];rfl
  case i =>
   repeat refine stq rfl ?_
   refine qst rfl rfl (q_idxA rfl rfl rfl rfl rfl rfl rfl (by omega) (by omega)) ?_
   refine qst rfl rfl (q_ldp rfl rfl rfl hr rfl) ?_
   repeat refine stq rfl ?_
   refine qst rfl rfl (q_slit rfl rfl rfl rfl rfl rfl rfl rfl rfl rfl (by repeat' constructor) rfl) ?_
   repeat refine stq rfl ?_
   refine ps_run (o_app 0 rfl rfl rfl rfl rfl rfl rfl rfl rfl rfl rfl (by repeat' constructor) (by intro row hr;first | (simp at hr;subst hr;rfl) | simp at hr) rfl rfl (by simp;omega) (by simp;omega) ?_)
   repeat refine stq rfl ?_
   refine ⟨k + 1,hlt,by omega,rfl,?_,rfl,rfl,i64_next (by omega) (by omega),rfl,?_,rfl,trivial⟩
   ·rw [hs,List.map_append];rfl
   ·rw [hs,List.map_append];rfl
  case s =>
   repeat refine stq rfl ?_
   refine qst rfl rfl (q_idxA rfl rfl rfl rfl rfl rfl rfl (by omega) (by omega)) ?_
   refine qst rfl rfl (q_ldp rfl rfl rfl hr rfl) ?_
   repeat refine stq rfl ?_
   refine qst rfl rfl (q_slit rfl rfl rfl rfl rfl rfl rfl rfl rfl rfl (by repeat' constructor) rfl) ?_
   repeat refine stq rfl ?_
   refine ps_run (o_app 0 rfl rfl rfl rfl rfl rfl rfl rfl rfl rfl rfl (by repeat' constructor) (by intro row hr;first | (simp at hr;subst hr;rfl) | simp at hr) rfl rfl (by simp;omega) (by simp;omega) ?_)
   repeat refine stq rfl ?_
   refine ⟨k + 1,hlt,by omega,rfl,?_,rfl,rfl,i64_next (by omega) (by omega),rfl,?_,rfl,trivial⟩
   ·rw [hs,List.map_append];rfl
   ·rw [hs,List.map_append];rfl
  case w =>
   repeat refine stq rfl ?_
   refine qst rfl rfl (q_idxA rfl rfl rfl rfl rfl rfl rfl (by omega) (by omega)) ?_
   refine qst rfl rfl (q_ldp rfl rfl rfl hr rfl) ?_
   repeat refine stq rfl ?_
   refine qst rfl rfl (q_slit rfl rfl rfl rfl rfl rfl rfl rfl rfl rfl (by repeat' constructor) rfl) ?_
   repeat refine stq rfl ?_
   refine ps_run (o_app 0 rfl rfl rfl rfl rfl rfl rfl rfl rfl rfl rfl (by repeat' constructor) (by intro row hr;first | (simp at hr;subst hr;rfl) | simp at hr) rfl rfl (by simp;omega) (by simp;omega) ?_)
   repeat refine stq rfl ?_
   refine ⟨k + 1,hlt,by omega,rfl,?_,rfl,rfl,i64_next (by omega) (by omega),rfl,?_,rfl,trivial⟩
   ·rw [hs,List.map_append];rfl
   ·rw [hs,List.map_append];rfl
  case a lo hi =>
   have hi := itoa_ret _ (Int.le_trans (by decide) hlim.1) (Int.le_trans hlim.2 (by decide))
   repeat refine stq rfl ?_
   refine qst rfl rfl (q_idxA rfl rfl rfl rfl rfl rfl rfl (by omega) (by omega)) ?_
   refine qst rfl rfl (q_ldp rfl rfl rfl hr rfl) ?_
   repeat refine stq rfl ?_
   refine qst rfl rfl (q_cp rfl hi rfl rfl rfl) ?_
   repeat refine stq rfl ?_
   refine qst rfl rfl (q_slit rfl rfl rfl rfl rfl rfl rfl rfl rfl rfl (by repeat' constructor) rfl) ?_
   repeat refine stq rfl ?_
   refine ps_run (o_app 0 rfl rfl rfl rfl rfl rfl rfl rfl rfl rfl rfl (by repeat' constructor) (by intro row hr;first | (simp at hr;subst hr;rfl) | simp at hr) rfl rfl (by simp;omega) (by simp;omega) ?_)
   repeat refine stq rfl ?_
   refine ⟨k + 1,hlt,by omega,rfl,?_,rfl,rfl,i64_next (by omega) (by omega),rfl,?_,rfl,trivial⟩
   ·rw [hs,List.map_append];rfl
   ·rw [hs,List.map_append];rfl
  case r lo hi =>
   have hi := itoa_ret _ (Int.le_trans (by decide) hlim.1) (Int.le_trans hlim.2 (by decide))
   repeat refine stq rfl ?_
   refine qst rfl rfl (q_idxA rfl rfl rfl rfl rfl rfl rfl (by omega) (by omega)) ?_
   refine qst rfl rfl (q_ldp rfl rfl rfl hr rfl) ?_
   repeat refine stq rfl ?_
   refine qst rfl rfl (q_cp rfl hi rfl rfl rfl) ?_
   repeat refine stq rfl ?_
   refine qst rfl rfl (q_slit rfl rfl rfl rfl rfl rfl rfl rfl rfl rfl (by repeat' constructor) rfl) ?_
   repeat refine stq rfl ?_
   refine ps_run (o_app 0 rfl rfl rfl rfl rfl rfl rfl rfl rfl rfl rfl (by repeat' constructor) (by intro row hr;first | (simp at hr;subst hr;rfl) | simp at hr) rfl rfl (by simp;omega) (by simp;omega) ?_)
   repeat refine stq rfl ?_
   refine ⟨k + 1,hlt,by omega,rfl,?_,rfl,rfl,i64_next (by omega) (by omega),rfl,?_,rfl,trivial⟩
   ·rw [hs,List.map_append];rfl
   ·rw [hs,List.map_append];rfl
  case l lo hi =>
   have hi := itoa_ret _ (Int.le_trans (by decide) hlim.1) (Int.le_trans hlim.2 (by decide))
   repeat refine stq rfl ?_
   refine qst rfl rfl (q_idxA rfl rfl rfl rfl rfl rfl rfl (by omega) (by omega)) ?_
   refine qst rfl rfl (q_ldp rfl rfl rfl hr rfl) ?_
   repeat refine stq rfl ?_
   refine qst rfl rfl (q_cp rfl hi rfl rfl rfl) ?_
   repeat refine stq rfl ?_
   refine qst rfl rfl (q_slit rfl rfl rfl rfl rfl rfl rfl rfl rfl rfl (by repeat' constructor) rfl) ?_
   repeat refine stq rfl ?_
   refine ps_run (o_app 0 rfl rfl rfl rfl rfl rfl rfl rfl rfl rfl rfl (by repeat' constructor) (by intro row hr;first | (simp at hr;subst hr;rfl) | simp at hr) rfl rfl (by simp;omega) (by simp;omega) ?_)
   repeat refine stq rfl ?_
   refine ⟨k + 1,hlt,by omega,rfl,?_,rfl,rfl,i64_next (by omega) (by omega),rfl,?_,rfl,trivial⟩
   ·rw [hs,List.map_append];rfl
   ·rw [hs,List.map_append];rfl
 ·have hz : k = fs.length := by have := of_decide_eq_false h;omega
  subst hz
  repeat refine stq rfl ?_
  refine qst rfl rfl (q_cp rfl hj rfl rfl rfl) ?_
  repeat refine stq rfl ?_
  exact end1 rfl rfl rfl trivial rfl
theorem format_ret (p : SPost) (hc : checkE p = 0) : Ret Tryz.prog .shared 12 [.agg (ePost p)] (.tup [.str (textP p),I 0]) := by
 have h1 := checkPost_ret p
 have h2 := written_ret p hc
 rw [hc] at h1
 refine Ret.of_pwp layOk mixed Go.Proofs.Tryz.func12 rfl (by decide) rfl rfl ?_
 repeat refine stq rfl ?_
 refine qst rfl rfl (q_cp rfl h1 rfl rfl rfl) ?_
 repeat refine stq rfl ?_
 refine qst rfl rfl (q_cp rfl h2 rfl rfl rfl) ?_
 repeat refine stq rfl ?_
 exact end2 rfl rfl rfl rfl rfl trivial trivial rfl
end Go.Pv


set_option maxHeartbeats 2000000
namespace Go.Pv
attribute [local irreducible] PWP POps PQuiet PSem XThen XBlock RetPost InlPost
open Go.Proofs
def valF (l : List SPost) (n : Int) (b : Nat) : Int := if 0 < latF l n b then (entL l (latF l n b)).amount else (entL l n).amount
theorem value_ret (l : List SPost) (hO : Ok l) (n : Int) (b : Nat) (hn : 1 ≤ n) (hnb : n ≤ b) (hb : b ≤ l.length) : Ret Tryz.prog .shared 145 [.dref (eBook l) 0,I n,I (b + 1)] (I (valF l n b)) := by
 have hl := hO.wf.len
 have hlt := latest_ret l hO n b hn hnb hb
 have hlb := latF_bounds l n b
 have he := entry_ret l n hn (by omega) hl
 have he2 := fun h => entry_ret l (latF l n b) h (by omega) hl
 rw [valF]
 generalize latF l n b = m at *
 refine Ret.of_pwp layOk mixed Go.Proofs.Tryz.func145 rfl (by decide) rfl rfl ?_
 repeat refine stq rfl ?_
 refine qst rfl rfl (q_cp rfl hlt rfl rfl rfl) ?_
 repeat refine stq rfl ?_
 refine pw_cond rfl (fun h => ?_) (fun h => ?_)
 ·have h0 := of_decide_eq_true h
  have he2 := he2 (by omega)
  rw [if_pos h0]
  repeat refine stq rfl ?_
  refine qst rfl rfl (q_cs rfl he2 rfl rfl) ?_
  repeat refine stq rfl ?_
  exact end1i rfl rfl rfl
 ·have h0 := of_decide_eq_false h
  rw [if_neg h0]
  repeat refine stq rfl ?_
  refine qst rfl rfl (q_cs rfl he rfl rfl) ?_
  repeat refine stq rfl ?_
  exact end1i rfl rfl rfl
def exO : Str := [79,49]
def exI : Str := [115,104,97,102,116]
def exL : List SPost := [⟨0,0,exO,[],[73,100,97],[],0,0,0⟩,⟨1,0,exO,exI,[],[],5000,0,0⟩,⟨3,1,exO,exI,[],[97,110,110],3000,0,0⟩,⟨4,1,[],[],[],[98,111,98],0,3,0⟩,⟨6,3,exO,[],[],[],0,0,0⟩]
theorem example_ret : Ret Tryz.prog .fresh 54 [] (.sl (exL.map ePost)) := by
 refine Ret.of_pwp layOk mixed Go.Proofs.Tryz.func54 rfl (by decide) rfl rfl ?_
 repeat refine stq rfl ?_
 refine qst rfl rfl (q_slit rfl rfl rfl rfl rfl rfl rfl rfl rfl rfl (by repeat' constructor) rfl) ?_
 repeat refine stq rfl ?_
 exact end1f rfl rfl rfl trivial rfl
theorem exL_acc : Acc exL := by
 have h : ∀ (l : List SPost) (p : SPost),Acc l → cleanP p = p → refusalR l p = 0 → Acc (l ++ [p]) := fun l p h1 h2 h3 => by have := h1.snoc h3;rwa [h2] at this
 have a0 : Acc ([] ++ [(⟨0,0,exO,[],[73,100,97],[],0,0,0⟩ : SPost)]) := h _ _ Acc.nil (by decide) (by decide)
 have a1 := h _ ⟨1,0,exO,exI,[],[],5000,0,0⟩ a0 (by decide) (by decide)
 have a2 := h _ ⟨3,1,exO,exI,[],[97,110,110],3000,0,0⟩ a1 (by decide) (by decide)
 have a3 := h _ ⟨4,1,[],[],[],[98,111,98],0,3,0⟩ a2 (by decide) (by decide)
 exact h _ ⟨6,3,exO,[],[],[],0,0,0⟩ a3 (by decide) (by decide)
theorem exText : textP ⟨3,1,exO,exI,[],[97,110,110],3000,0,0⟩ = [49,32,99,104,97,114,103,101,32,79,49,32,115,104,97,102,116,32,97,110,110,32,51,48,48,48] := by decide +kernel
end Go.Pv


set_option maxHeartbeats 2000000
namespace Go.Pv
attribute [local irreducible] PWP POps PQuiet PSem XThen XBlock RetPost InlPost
open Go.Proofs
structure SAcct where
 item : Str
 est : Int
 gro : Int
 chg : Int
 sig : Int
 bil : Int
 ovr : Int
 deriving DecidableEq,Inhabited
def eAcct (a : SAcct) : List PV := [.str a.item,I a.est,I a.gro,I a.chg,I a.sig,I a.bil,I a.ovr]
def sget : List (Str × Int) → Str → Int
 |[],_ => 0
 |(d,c) :: m,k => if d = k then c else sget m k
def sput (k : Str) (v : Int) : List (Str × Int) → List (Str × Int)
 |[] => [(k,v)]
 |(d,c) :: m => if d = k then (d,v) :: m else (d,c) :: sput k v m
def eSV (e : Str × Int) : List PV := [.str e.1,I e.2]
theorem mval_sv (d : Str) : ∀ m : List (Str × Int),mval (I 0) (.str d) (m.map eSV) = I (sget m d)
 |[] => rfl
 |(e,c) :: m => by
  rw [List.map_cons,mval_cons,mval_sv d m]
  have : mhd (.str d) (eSV (e,c)) = decide (e = d) := rfl
  rw [this,sget]
  by_cases h : e = d
  ·rw [if_pos h,decide_eq_true h];rfl
  ·rw [if_neg h,decide_eq_false h];rfl
theorem mput_sv (d : Str) (v : Int) : ∀ m : List (Str × Int),mput (.str d) (I v) (m.map eSV) = (sput d v m).map eSV
 |[] => rfl
 |(e,c) :: m => by
  rw [List.map_cons,mput_cons,mput_sv d v m]
  have : mhd (.str d) (eSV (e,c)) = decide (e = d) := rfl
  rw [this,sput]
  by_cases h : e = d
  ·rw [if_pos h,decide_eq_true h];rfl
  ·rw [if_neg h,decide_eq_false h];rfl
theorem keyed_sv (m : List (Str × Int)) : keyed .str (m.map eSV) = true := by
 induction m with
 |nil => rfl
 |cons e m ih => rw [List.map_cons];exact ih
theorem keyedG_sv (m : List (Str × Int)) : keyedG .str none (m.map eSV) = true := by
 induction m with
 |nil => rfl
 |cons e m ih => rw [List.map_cons];exact ih
theorem sget_sput (k : Str) (v : Int) (d : Str) : ∀ m : List (Str × Int),sget (sput k v m) d = if k = d then v else sget m d
 |[] => rfl
 |(e,c) :: m => by
  have ih := sget_sput k v d m
  simp only [sput,sget]
  by_cases h : e = k
  ·subst h
   rw [if_pos rfl,sget]
   by_cases h2 : e = d
   ·rw [if_pos h2,if_pos h2]
   ·rw [if_neg h2,if_neg h2,if_neg h2]
  ·rw [if_neg h,sget,ih]
   by_cases h2 : e = d
   ·subst h2;rw [if_pos rfl,if_neg (fun e => h e.symm),if_pos rfl]
   ·rw [if_neg h2,if_neg h2]
def Lim (n : Int) : Prop := -1000000000 ≤ n ∧ n ≤ 1000000000
theorem clean_amount {p : SPost} (hc : checkE p = 0) : Lim (cleanP p).amount := by
 have key : ∀ (fs : List Fd) (o : SPost),Lim o.amount → (∀ f,f ∈ fs → f.fine p) → Lim (fs.foldl (fun o f => f.set p o) o).amount := by
  intro fs
  induction fs with
  |nil => intro o ho _;exact ho
  |cons f fs ih =>
   intro o ho hf
   rw [List.foldl_cons]
   refine ih _ ?_ fun g hg => hf g (by simp [hg])
   have := hf f (by simp)
   cases f <;> first | exact ho | exact this
 refine key _ _ (show Lim 0 from ⟨by decide,by decide⟩) fun f hf => ?_
 obtain ⟨k,hk,hfe⟩ := List.getElem_of_mem hf
 exact num_lim hc (k := k) (f := f) (by rw [← hfe];exact List.getElem?_eq_getElem hk)
theorem Acc.amt {l : List SPost} (h : Acc l) : ∀ (j : Nat) p,l[j]? = some p → Lim p.amount := by
 induction h with
 |nil => intro j p h;simp at h
 |snoc _ hr ih =>
  intro j p hp
  rcases snoc_get hp with ⟨_,hp⟩ | ⟨_,rfl⟩
  ·exact ih j p hp
  ·exact clean_amount (refusalR_zero hr).1
theorem valF_lim {l : List SPost} (h : Acc l) (n : Int) (b : Nat) (hn : 1 ≤ n) (hnb : n ≤ b) (hb : b ≤ l.length) : Lim (valF l n b) := by
 have hlb := latF_bounds l n b
 rw [valF]
 split
 ·exact h.amt _ _ (entL_at (by omega) (by omega))
 ·exact h.amt _ _ (entL_at hn (by omega))
def accI (o : Str) (l : List SPost) (n : Int) : Bool := decide ((entL l n).order = o) && liveB l n
def billF (l : List SPost) (n : Int) : Int := if 0 < invF l n l.length then valF l n (invF l n l.length - 1).toNat else 0
def accS (l : List SPost) (o : Str) (n : Int) (M : List SAcct × List (Str × Int)) : List SAcct × List (Str × Int) :=
 if accI o l n = false then M
 else if (entL l n).op = 1 then (M.1 ++ [⟨(entL l n).item,valF l n l.length,0,0,0,0,0⟩],sput (entL l n).item M.1.length M.2)
 else if (entL l n).op = 2 then
  (if sgdB l n l.length 1 = true then (M.1.modify (sget M.2 (entL l n).item).toNat (fun a => { a with gro := a.gro + valF l n l.length }),M.2) else M)
 else if (entL l n).op = 3 then
  (M.1.modify (sget M.2 (entL l n).item).toNat (fun a => { a with chg := a.chg + valF l n l.length,sig := a.sig + (if sgdB l n l.length 0 = true then valF l n l.length else 0),bil := a.bil + billF l n }),M.2)
 else M
def accK (l : List SPost) (o : Str) : Nat → List SAcct × List (Str × Int)
 |0 => ([],[])
 |k + 1 => accS l o ((k : Int) + 1) (accK l o k)
def ovrA (a : SAcct) : SAcct := { a with ovr := max 0 (a.chg - a.est - a.gro) }
def accP (l : List SPost) (o : Str) : List SAcct := (accK l o l.length).1.map ovrA
end Go.Pv


set_option maxHeartbeats 2000000
namespace Go.Pv
attribute [local irreducible] PWP POps PQuiet PSem XThen XBlock RetPost InlPost
open Go.Proofs
def LimA (B : Int) (a : SAcct) : Prop := (-B ≤ a.est ∧ a.est ≤ B) ∧ (-B ≤ a.gro ∧ a.gro ≤ B) ∧ (-B ≤ a.chg ∧ a.chg ≤ B) ∧ (-B ≤ a.sig ∧ a.sig ≤ B) ∧ (-B ≤ a.bil ∧ a.bil ≤ B) ∧ a.ovr = 0
structure AccInv (l : List SPost) (o : Str) (k : Nat) (M : List SAcct × List (Str × Int)) : Prop where
 idx : ∀ j : Int,1 ≤ j → j ≤ k → (entL l j).op = 1 → accI o l j = true → 0 ≤ sget M.2 (entL l j).item ∧ sget M.2 (entL l j).item < M.1.length
 lim : ∀ a,a ∈ M.1 → LimA (1000000000 * k) a
 len : M.1.length ≤ k
theorem LimA.mono {B B' : Int} {a : SAcct} (h : LimA B a) (hb : B ≤ B') : LimA B' a := by
 obtain ⟨h1,h2,h3,h4,h5,h6⟩ := h
 exact ⟨by omega,by omega,by omega,by omega,by omega,h6⟩
theorem mem_modify {α : Type} {l : List α} {i : Nat} {f : α → α} {x : α} (h : x ∈ l.modify i f) : x ∈ l ∨ ∃ y,y ∈ l ∧ x = f y := by
 obtain ⟨j,hj,rfl⟩ := List.getElem_of_mem h
 have hj' : j < l.length := by simpa using hj
 rw [List.getElem_modify]
 split
 ·exact .inr ⟨l[j],by simp,rfl⟩
 ·exact .inl (by simp)
theorem billF_lim {l : List SPost} (h : Acc l) {n : Int} (hn : 1 ≤ n) (hnl : n ≤ l.length) : Lim (billF l n) := by
 rw [billF]
 split
 ·rename_i h0
  have key : ∀ k : Nat,0 < invF l n k → n < invF l n k ∧ invF l n k ≤ k := by
   intro k
   induction k with
   |zero => intro h;simp [invF] at h
   |succ k ih =>
    intro h
    rw [invF] at h ⊢
    split
    ·rename_i hz
     rw [if_pos hz] at h
     split
     ·rename_i hc
      simp only [Bool.and_eq_true,decide_eq_true_eq] at hc
      omega
     ·rename_i hc
      rw [if_neg hc] at h;omega
    ·rename_i hz
     rw [if_neg hz] at h
     have := ih h
     omega
  have := key _ h0
  exact valF_lim h n _ hn (by omega) (by omega)
 ·exact ⟨by decide,by decide⟩
theorem accK_inv {l : List SPost} (h : Acc l) (o : Str) : ∀ k : Nat,k ≤ l.length → AccInv l o k (accK l o k)
 |0,_ => ⟨fun j h1 h2 => by omega,fun a ha => by simp [accK] at ha,by simp [accK]⟩
 |k + 1,hk => by
  have ih := accK_inv h o k (by omega)
  have hv := valF_lim h ((k : Int) + 1) l.length (by omega) (by omega) (Nat.le_refl _)
  have hb := billF_lim h (n := (k : Int) + 1) (by omega) (by omega)
  rw [accK]
  generalize accK l o k = M at *
  obtain ⟨A,T⟩ := M
  have hsame : (entL l ((k : Int) + 1)).op ≠ 1 ∨ accI o l ((k : Int) + 1) = false → ∀ A' : List SAcct,A'.length = A.length → (∀ a,a ∈ A' → LimA (1000000000 * ((k + 1 : Nat) : Int)) a) → AccInv l o (k + 1) (A',T) := fun hc A' hl hlim => by
   refine ⟨fun j h1 h2 h3 h4 => ?_,hlim,by rw [hl];have := ih.len;simp only at this ⊢;omega⟩
   have hj : j ≤ k := by
    rcases Int.lt_or_le k j with hlt | hge
    ·have : j = k + 1 := by omega
     subst this
     rcases hc with hc | hc
     ·exact absurd h3 hc
     ·rw [hc] at h4;cases h4
    ·exact hge
   have := ih.idx j h1 hj h3 h4
   simp only at this ⊢
   rw [hl];exact this
  have hlim0 : ∀ a,a ∈ A → LimA (1000000000 * ((k + 1 : Nat) : Int)) a := fun a ha => (ih.lim a ha).mono (by omega)
  rw [accS]
  by_cases hi : accI o l ((k : Int) + 1) = false
  ·rw [if_pos hi];exact hsame (.inr hi) A rfl hlim0
  rw [if_neg hi]
  by_cases h1 : (entL l ((k : Int) + 1)).op = 1
  ·rw [if_pos h1]
   refine ⟨fun j g1 g2 g3 g4 => ?_,fun a ha => ?_,by have := ih.len;simp at this ⊢;omega⟩
   ·simp only [sget_sput,List.length_append,List.length_cons,List.length_nil]
    split
    ·omega
    ·rename_i hne
     have hj : j ≤ k := by
      rcases Int.lt_or_le k j with hlt | hge
      ·have : j = k + 1 := by omega
       subst this
       exact absurd rfl hne
      ·exact hge
     have := ih.idx j g1 hj g3 g4
     simp only at this
     omega
   ·rcases List.mem_append.1 ha with ha | ha
    ·exact hlim0 a ha
    ·simp only [List.mem_cons,List.not_mem_nil,or_false] at ha
     subst ha
     have hk0 : 1000000000 * ((k + 1 : Nat) : Int) ≥ 1000000000 := by omega
     exact ⟨⟨by have := hv.1;simp only;omega,by have := hv.2;simp only;omega⟩,⟨by simp only;omega,by simp only;omega⟩,⟨by simp only;omega,by simp only;omega⟩,⟨by simp only;omega,by simp only;omega⟩,⟨by simp only;omega,by simp only;omega⟩,rfl⟩
  rw [if_neg h1]
  have hmod : ∀ (i : Nat) (f : SAcct → SAcct),(∀ a,LimA (1000000000 * (k : Int)) a → LimA (1000000000 * ((k + 1 : Nat) : Int)) (f a)) → AccInv l o (k + 1) (A.modify i f,T) := fun i f hf =>
   hsame (.inl h1) _ (by simp) fun a ha => by
    rcases mem_modify ha with ha | ⟨y,hy,rfl⟩
    ·exact hlim0 a ha
    ·exact hf y (ih.lim y hy)
  by_cases h2 : (entL l ((k : Int) + 1)).op = 2
  ·rw [if_pos h2]
   split
   ·refine hmod _ _ fun a ⟨e1,e2,e3,e4,e5,e6⟩ => ⟨by simp only;omega,?_,by simp only;omega,by simp only;omega,by simp only;omega,e6⟩
    have := hv.1;have := hv.2;simp only;omega
   ·exact hsame (.inl h1) A rfl hlim0
  rw [if_neg h2]
  by_cases h3 : (entL l ((k : Int) + 1)).op = 3
  ·rw [if_pos h3]
   refine hmod _ _ fun a ⟨e1,e2,e3,e4,e5,e6⟩ => ⟨by simp only;omega,by simp only;omega,?_,?_,?_,e6⟩
   ·have := hv.1;have := hv.2;simp only;omega
   ·have := hv.1;have := hv.2;simp only;split <;> omega
   ·have := hb.1;have := hb.2;simp only;omega
  ·rw [if_neg h3];exact hsame (.inl h1) A rfl hlim0
theorem acc_item {l : List SPost} (h : Acc l) {o : Str} {k : Nat} (hk : k < l.length) (hi : accI o l ((k : Int) + 1) = true) (ho : (entL l ((k : Int) + 1)).op = 2 ∨ (entL l ((k : Int) + 1)).op = 3) :
  0 ≤ sget (accK l o k).2 (entL l ((k : Int) + 1)).item ∧ sget (accK l o k).2 (entL l ((k : Int) + 1)).item < (accK l o k).1.length := by
 have hinv := accK_inv h o k (by omega)
 have hO := h.ok
 have he := entL_at (l := l) (n := (k : Int) + 1) (by omega) (by omega)
 rw [show ((k : Int) + 1 - 1).toNat = k by omega] at he
 simp only [accI,Bool.and_eq_true,decide_eq_true_eq] at hi
 have hpos := (hO.pos _ _ he).2.1 ho
 have hlt := hO.wf.sup _ _ he
 have hsu : supNo l (entL l ((k : Int) + 1)) = itmNo l (entL l ((k : Int) + 1)).order (entL l ((k : Int) + 1)).item := by rw [supNo,if_neg (by omega),if_pos ho]
 have hlv := liveB_pos hO.wf (n := (k : Int) + 1) (by omega)
 rw [hi.2,hsu] at hlv
 have hlv := (Bool.and_eq_true_iff.1 hlv.symm).2
 rw [hsu] at hlt
 generalize hj : itmNo l (entL l ((k : Int) + 1)).order (entL l ((k : Int) + 1)).item = j at *
 rw [itmNo] at hj
 obtain ⟨x,hx,hxp⟩ := idx_lt (l := l) (p := fun p => decide (p.op = 1) && decide (p.order = (entL l ((k : Int) + 1)).order) && decide (p.item = (entL l ((k : Int) + 1)).item)) (by omega)
 have hxe : entL l j = x := by
  have := entL_at (l := l) (n := j) (by omega) (by omega)
  rw [show (j - 1).toNat = (idx l fun p => decide (p.op = 1) && decide (p.order = (entL l ((k : Int) + 1)).order) && decide (p.item = (entL l ((k : Int) + 1)).item)).toNat by omega,hx] at this
  exact (Option.some.inj this).symm
 simp only [Bool.and_eq_true,decide_eq_true_eq] at hxp
 have := hinv.idx j (by omega) (by omega) (by rw [hxe];exact hxp.1.1) (by rw [accI,hxe,hxp.1.2,hi.1,hlv];simp)
 rw [hxe,hxp.2] at this
 exact this
end Go.Pv


set_option maxHeartbeats 2000000
namespace Go.Pv
attribute [local irreducible] PWP POps PQuiet PSem XThen XBlock RetPost InlPost
open Go.Proofs
section
variable {P : Program} {L : Lay} {s : St} {T d : Nat} {r : LRow} {x y : Operand} {ty : TypeId} {pos : String} {af : Array Edge} {g : Option (Nat × Bool)} {K : St → Prop}
theorem o_storeM {α : Type} {enc : α → List PV} {l : List α} {a : α} (a' : α) {v : PV} {k gn i jj kd kd' : Nat} {tc : TypeId} {sz : Nat} {Pr : Prop} (hr : L T = some r) (hx : s.ev x = .ptr k gn i jj) (hown : s.own k = (gn,some ⟨tc,sz,l.map enc,kd⟩)) (hget : l[i]? = some a) (hv : (s.ev y).fz = some v) (h1 : oneL s v.cells = some Pr) (h2 : Pr)
  (hsz : v.cells.length = r.size) (hle : Nat.ble (jj + r.size) (enc a).length = true) (hk : Nat.ble kd kd' = true) (hkd : v.cells.all (kOk kd') = true) (hnew : splc (enc a) jj (v.cells.map (nrm kd')) = enc a') (h : K (s.setOwn k gn (some ⟨tc,sz,(l.set i a').map enc,kd'⟩))) : POp P L s ⟨none,.store T x y,ty,pos,af,g⟩ K := by
 refine o_store hr hx hown (by rw [List.getElem?_map,hget];rfl) hv h1 h2 hsz hle hk hkd ?_
 rw [hnew,← List.map_set]
 exact h
end
theorem modify_set {α : Type} {l : List α} {i : Nat} {a : α} (h : l[i]? = some a) (f : α → α) : l.modify i f = l.set i (f a) := by
 have hi := (List.getElem?_eq_some_iff.1 h).1
 apply List.ext_getElem?
 intro j
 by_cases hj : i = j
 ·subst hj
  rw [List.getElem?_modify,h,List.getElem?_set_self hi];simp
 ·rw [List.getElem?_modify,List.getElem?_set_ne hj];simp [hj]
theorem set_at {α : Type} {l : List α} {i : Nat} {a : α} (h : l[i]? = some a) (b : α) : (l.set i b)[i]? = some b := List.getElem?_set_self (List.getElem?_eq_some_iff.1 h).1
def ovrK (A : List SAcct) (j : Nat) : List SAcct := (A.take j).map ovrA ++ A.drop j
theorem ovrK_at {A : List SAcct} {j : Nat} {a : SAcct} (h : A[j]? = some a) : (ovrK A j)[j]? = some a ∧ (ovrK A j).set j (ovrA a) = ovrK A (j + 1) := by
 obtain ⟨hj,he⟩ := List.getElem?_eq_some_iff.1 h
 have hl : ((A.take j).map ovrA).length = j := by simp;omega
 constructor
 ·rw [ovrK,List.getElem?_append_right (by omega),hl,Nat.sub_self,List.getElem?_drop];exact h
 ·rw [ovrK,ovrK,take_snoc h,List.map_append,List.set_append_right _ _ (by omega),hl,Nat.sub_self,List.drop_eq_getElem_cons hj,he]
  simp
theorem inv_bounds {l : List SPost} {n : Int} : ∀ {k : Nat},0 < invF l n k → n < invF l n k ∧ invF l n k ≤ k
 |0,h => by simp [invF] at h
 |k + 1,h => by
  rw [invF] at h ⊢
  by_cases hz : invF l n k = 0
  ·rw [if_pos hz] at h ⊢
   split
   ·rename_i hc
    simp only [Bool.and_eq_true,decide_eq_true_eq] at hc
    omega
   ·rename_i hc
    rw [if_neg hc] at h;omega
  ·rw [if_neg hz] at h ⊢
   have := inv_bounds h
   omega
set_option maxRecDepth 20000 in
theorem accounts_ret (l : List SPost) (hA : Acc l) (o : Str) : Ret Tryz.prog .fresh 105 [.dref (eBook l) 0,.str o] (.sl ((accP l o).map eAcct)) := by
 have hO := hA.ok
 have hl := hO.wf.len
 have hll : ((l.map ePost).length : Int) = l.length := by simp
 have h30 := covered_ret l hO o
 have h29 := end_ret l hl
 refine Ret.of_pwp layOk mixed Go.Proofs.Tryz.func105 rfl (by decide) rfl rfl ?_
 ((repeat (first | refine ps_nil ?_ | refine pq_nil ?_ | refine x_norm ?_ | refine pw_seq ?_));refine pw_region ?_)
 refine ps_v rfl trivial ?_
 ((repeat (first | refine ps_nil ?_ | refine pq_nil ?_ | refine x_norm ?_ | refine pw_seq ?_));refine pw_region ?_)
 refine ps_v rfl trivial ?_
 refine ps_nil ?_
 refine x_norm ?_
 refine pw_ghost (Ghost.nilreg (k := 5) (t := 5) 185 7 0 rfl rfl) ?_
 repeat refine stq rfl ?_
 refine ps_run (o_mkmap rfl ?_)
 repeat refine stq rfl ?_
 refine qst rfl rfl (q_cf rfl h30 rfl rfl) ?_
 repeat refine stq rfl ?_
 refine qst rfl rfl (q_cp rfl h29 rfl rfl rfl) ?_
 repeat refine stq rfl ?_
 rw [hll]
 refine pw_loop (fun (k : Nat × Nat) => k.1 ≤ l.length) (fun k => [(0,.dref (eBook l) 0),(1,.str o),(5,.als 5 k.2 0 (((accK l o k.1).1.map eAcct).length)),(6,.mp 17 1),(7,.mapd ((covOut l o l.length).map eKV)),(8,I (l.length + 1)),(26,.sl (l.map ePost)),(27,I l.length),(28,I k.1)])
  (fun k => [(5,k.2,⟨185,7,(accK l o k.1).1.map eAcct,0⟩),(17,1,⟨142,0,(accK l o k.1).2.map eSV,0⟩)]) (fun k => l.length - k.1) (0,1) (Nat.zero_le _) ⟨rfl,rfl,rfl,rfl,rfl,rfl,rfl,rfl,rfl,rfl,rfl,trivial⟩ ?_
 rintro ⟨k,g⟩ s hk
 have hk : k ≤ l.length := hk
 clear h30 h29
 repeat refine stq rfl ?_
 refine pw_cond rfl (fun h => ?_) (fun h => ?_)
 ·have hlt : k < l.length := by have := of_decide_eq_true h;omega
  clear h
  have hx : l[k]? = some (entL l ((k : Int) + 1)) := by
   have := entL_at (l := l) (n := (k : Int) + 1) (by omega) (by omega)
   rwa [show ((k : Int) + 1 - 1).toNat = k by omega] at this
  have hv := live_ret l hO.wf ((k : Int) + 1) (by omega)
  have hval := value_ret l hO ((k : Int) + 1) l.length (by omega) (by omega) (Nat.le_refl _)
  have hvl := valF_lim hA ((k : Int) + 1) l.length (by omega) (by omega) (Nat.le_refl _)
  have hs1 := signed_ret l hO ((k : Int) + 1) l.length 1 (by omega) (by omega) (Nat.le_refl _)
  have hs0 := signed_ret l hO ((k : Int) + 1) l.length 0 (by omega) (by omega) (Nat.le_refl _)
  have hcov := fun h1 h2 h3 => covOut_at (l := l) (o := o) (n := (k : Int) + 1) h1 h2 h3 (by omega) l.length
  have hidx := acc_item hA (o := o) hlt
  have hinv := accK_inv hA o k hk
  have hst : accK l o (k + 1) = accS l o ((k : Int) + 1) (accK l o k) := rfl
  have hw : IntKind.wrap .i64 ((k : Int) + 1) = (k : Int) + 1 := wrap_i64 (by omega) (by omega)
  have hnx : ∀ s' : St,s'.reg 28 = I ((k : Int) + 1) → True := fun _ _ => trivial
  rw [accS,accI] at hst
  rw [accI] at hidx
  generalize accK l o k = M at *
  obtain ⟨A,T⟩ := M
  simp only at hidx hst
  have hAl : ((A.map eAcct).length : Int) = A.length := by simp
  have hAn : A.length ≤ 400 := by have := hinv.len;simp only at this;omega
  generalize entL l ((k : Int) + 1) = x at *
  repeat refine stq rfl ?_
  refine qst rfl rfl (q_idxm rfl rfl rfl rfl rfl (by omega) hx rfl) ?_
  repeat refine stq rfl ?_
  rw [hw]
  (first|refine ps_split rfl rfl ?_ ?_|refine pq_split rfl rfl ?_ ?_|refine p3_split rfl rfl ?_ ?_)<;>intro h
  ·have g1 : ¬ x.order = o := by simpa using h
   rw [decide_eq_false g1,Bool.false_and,if_pos rfl] at hst
   repeat refine stq rfl ?_
   exact ⟨(k + 1,g),hlt,by show l.length - (k + 1) < l.length - k;omega,rfl,rfl,by rw [hst];rfl,rfl,rfl,rfl,rfl,rfl,i64_next (by omega) (by omega),by rw [hst];rfl,by rw [hst];rfl,trivial⟩
  have g1 : x.order = o := by simpa using h
  clear h
  rw [decide_eq_true g1,Bool.true_and] at hst hidx
  generalize hlv : liveB l ((k : Int) + 1) = lv at *
  repeat refine stq rfl ?_
  refine qst rfl rfl (q_cp rfl hv rfl rfl rfl) ?_
  cases lv with
  |false =>
   rw [if_pos rfl] at hst
   repeat refine stq rfl ?_
   exact ⟨(k + 1,g),hlt,by show l.length - (k + 1) < l.length - k;omega,rfl,rfl,by rw [hst];rfl,rfl,rfl,rfl,rfl,rfl,i64_next (by omega) (by omega),by rw [hst];rfl,by rw [hst];rfl,trivial⟩
  |true =>
  rw [if_neg (by simp)] at hst
  replace hidx := hidx rfl
  generalize hvv : valF l ((k : Int) + 1) l.length = v at *
  repeat refine stq rfl ?_
  refine qst rfl rfl (q_cp rfl hval rfl rfl rfl) ?_
  repeat refine stq rfl ?_
  by_cases h1 : x.op = 1
  ·rw [if_pos h1] at hst
   repeat (first|refine stq rfl ?_|refine pw_no rfl ?_|refine pw_yes rfl ?_)
   refine ps_run0 (o_mset 0 rfl rfl rfl rfl rfl rfl rfl rfl rfl (keyed_sv T) rfl rfl ?_)
   rw [show nrm 0 (PV.int .i64 ((A.map eAcct).length : Int)) = I ((A.map eAcct).length : Int) from rfl,mput_sv,hAl]
   repeat refine stq rfl ?_
   refine qst rfl rfl (q_slit rfl rfl rfl rfl rfl rfl rfl rfl rfl rfl (by repeat' constructor) rfl) ?_
   repeat refine stq rfl ?_
   refine ps_run (o_app 0 rfl rfl rfl rfl rfl rfl rfl rfl rfl rfl rfl (by repeat' constructor) (by intro row hr;first | (simp at hr;subst hr;rfl) | simp at hr) rfl rfl (by simp;omega) (by simp;omega) ?_)
   repeat refine stq rfl ?_
   refine ⟨(k + 1,g + 1),hlt,by show l.length - (k + 1) < l.length - k;omega,rfl,rfl,?_,rfl,rfl,rfl,rfl,rfl,i64_next (by omega) (by omega),?_,?_,trivial⟩
   ·rw [hst,List.map_append];rfl
   ·rw [hst,List.map_append];rfl
   ·rw [hst];rfl
  rw [if_neg h1] at hst
  by_cases h2 : x.op = 2
  ·rw [if_pos h2] at hst
   have hid := hidx (.inl h2)
   obtain ⟨a,ha⟩ := get_lt (show (sget T x.item).toNat < A.length by omega)
   have hla := hinv.lim a (List.mem_of_getElem? ha)
   obtain ⟨e1,e2,e3,e4,e5,e6⟩ := hla
   rw [modify_set ha,← Nat.zero_add (sget T x.item).toNat] at hst
   have hg0 : A[0 + (sget T x.item).toNat]? = some a := by rw [Nat.zero_add];exact ha
   have hrow : (A.map eAcct)[0 + (sget T x.item).toNat]? = some (eAcct a) := by rw [List.getElem?_map,hg0];rfl
   have hwa : IntKind.wrap .i64 (a.gro + v) = a.gro + v := by have := hvl.1;have := hvl.2;exact wrap_i64 (by omega) (by omega)
   have hmb : sget T x.item < (A.map eAcct).length := by rw [List.length_map];exact hid.2
   generalize sgdB l ((k : Int) + 1) l.length 1 = sg at *
   clear h1
   repeat (first|refine stq rfl ?_|refine pw_no rfl ?_|refine pw_yes rfl ?_)
   refine qst rfl rfl (q_cp rfl hs1 rfl rfl rfl) ?_
   cases sg with
   |false =>
    rw [if_neg (by simp)] at hst
    repeat refine stq rfl ?_
    exact ⟨(k + 1,g),hlt,by show l.length - (k + 1) < l.length - k;omega,rfl,rfl,by rw [hst];rfl,rfl,rfl,rfl,rfl,rfl,i64_next (by omega) (by omega),by rw [hst];rfl,by rw [hst];rfl,trivial⟩
   |true =>
    rw [if_pos rfl] at hst
    repeat refine stq rfl ?_
    refine qst rfl rfl (q_lookG none rfl rfl rfl rfl rfl zone3 rfl rfl rfl rfl rfl rfl (keyedG_sv T)) ?_
    rw [mval_sv]
    refine qst rfl rfl (q_idxA rfl rfl rfl rfl rfl rfl rfl hid.1 hmb) ?_
    repeat refine stq rfl ?_
    refine qst rfl rfl (q_ldp rfl rfl rfl hrow rfl) ?_
    repeat refine stq rfl ?_
    rw [hwa]
    refine qst rfl rfl (q_idxA rfl rfl rfl rfl rfl rfl rfl hid.1 hmb) ?_
    repeat refine stq rfl ?_
    refine ps_run0 (o_storeM (enc := eAcct) { a with gro := a.gro + v } (kd' := 0) rfl rfl rfl hg0 rfl rfl ⟨trivial,trivial⟩ rfl rfl rfl rfl rfl ?_)
    repeat refine stq rfl ?_
    exact ⟨(k + 1,g),hlt,by show l.length - (k + 1) < l.length - k;omega,rfl,rfl,by rw [hst];show PV.als 5 g 0 (A.map eAcct).length = PV.als 5 g 0 ((A.set _ _).map eAcct).length;rw [List.length_map,List.length_map,List.length_set],rfl,rfl,rfl,rfl,rfl,i64_next (by omega) (by omega),by rw [hst];rfl,by rw [hst];rfl,trivial⟩
  rw [if_neg h2] at hst
  by_cases h3 : x.op = 3
  ·rw [if_pos h3] at hst
   have hid := hidx (.inr h3)
   obtain ⟨a,ha⟩ := get_lt (show (sget T x.item).toNat < A.length by omega)
   have hla := hinv.lim a (List.mem_of_getElem? ha)
   obtain ⟨e1,e2,e3,e4,e5,e6⟩ := hla
   rw [modify_set ha,← Nat.zero_add (sget T x.item).toNat] at hst
   have hg0 : A[0 + (sget T x.item).toNat]? = some a := by rw [Nat.zero_add];exact ha
   have hrow : (A.map eAcct)[0 + (sget T x.item).toNat]? = some (eAcct a) := by rw [List.getElem?_map,hg0];rfl
   have hwc : IntKind.wrap .i64 (a.chg + v) = a.chg + v := by have := hvl.1;have := hvl.2;exact wrap_i64 (by omega) (by omega)
   have hws : IntKind.wrap .i64 (a.sig + v) = a.sig + v := by have := hvl.1;have := hvl.2;exact wrap_i64 (by omega) (by omega)
   have hmb : sget T x.item < (A.map eAcct).length := by rw [List.length_map];exact hid.2
   have hcv := hcov h3 g1 rfl
   generalize sgdB l ((k : Int) + 1) l.length 0 = sg at *
   clear h1 h2
   repeat (first|refine stq rfl ?_|refine pw_no rfl ?_|refine pw_yes rfl ?_)
   refine qst rfl rfl (q_lookG none rfl rfl rfl rfl rfl zone3 rfl rfl rfl rfl rfl rfl (keyedG_sv T)) ?_
   rw [mval_sv]
   refine qst rfl rfl (q_idxA rfl rfl rfl rfl rfl rfl rfl hid.1 hmb) ?_
   repeat refine stq rfl ?_
   refine qst rfl rfl (q_ldp rfl rfl rfl hrow rfl) ?_
   repeat refine stq rfl ?_
   rw [hwc]
   repeat refine stq rfl ?_
   refine ps_run0 (o_storeM (enc := eAcct) { a with chg := a.chg + v } (kd' := 0) rfl rfl rfl hg0 rfl rfl ⟨trivial,trivial⟩ rfl rfl rfl rfl rfl ?_)
   have hrow1 : ∀ b : SAcct,((A.set (0 + (sget T x.item).toNat) b).map eAcct)[0 + (sget T x.item).toNat]? = some (eAcct b) := fun b => by rw [List.getElem?_map,set_at hg0 b];rfl
   have hbb := billF_lim hA (n := (k : Int) + 1) (by omega) (by omega)
   have hbl : billF l ((k : Int) + 1) = if 0 < invF l ((k : Int) + 1) l.length then valF l ((k : Int) + 1) (invF l ((k : Int) + 1) l.length - 1).toNat else 0 := rfl
   have hval2 : 0 < invF l ((k : Int) + 1) l.length → Ret Tryz.prog .shared 145 [.dref (eBook l) 0,I ((k : Int) + 1),I (invF l ((k : Int) + 1) l.length)] (I (valF l ((k : Int) + 1) (invF l ((k : Int) + 1) l.length - 1).toNat)) := fun hp => by
    have hb := inv_bounds hp
    have := value_ret l hO ((k : Int) + 1) (invF l ((k : Int) + 1) l.length - 1).toNat (by omega) (by omega) (by omega)
    rwa [show (((invF l ((k : Int) + 1) l.length - 1).toNat : Nat) : Int) + 1 = invF l ((k : Int) + 1) l.length by omega] at this
   generalize valF l ((k : Int) + 1) (invF l ((k : Int) + 1) l.length - 1).toNat = vb at *
   generalize invF l ((k : Int) + 1) l.length = iv at *
   have hwb : iv > 0 → IntKind.wrap .i64 (a.bil + vb) = a.bil + vb := fun hp => by rw [hbl,if_pos hp] at hbb;have := hbb.1;have := hbb.2;exact wrap_i64 (by omega) (by omega)
   repeat refine stq rfl ?_
   refine qst rfl rfl (q_cp rfl hs0 rfl rfl rfl) ?_
   cases sg with
   |false =>
    rw [show a.sig + (if false = true then v else 0) = a.sig from Int.add_zero _] at hst
    repeat refine stq rfl ?_
    refine qst rfl rfl (q_lookV none (mval_kv ((k : Int) + 1) (covOut l o l.length)) (keyedG_kv _) zone3 rfl rfl rfl rfl rfl rfl rfl rfl rfl) ?_
    rw [hcv]
    repeat refine stq rfl ?_
    refine pw_cond rfl (fun h => ?_) (fun h => ?_)
    ·have hp := of_decide_eq_true h
     clear h
     have hval2 := hval2 hp
     rw [if_pos hp] at hbl
     rw [hbl] at hst
     repeat refine stq rfl ?_
     refine pw_draw 11 [116,117,118,119,120,121,122,123,124,125,126] (by decide +kernel) ?_
     repeat refine stq rfl ?_
     refine qst rfl rfl (q_ldp rfl rfl rfl (hrow1 { a with chg := a.chg + v }) rfl) ?_
     repeat refine stq rfl ?_
     refine qst rfl rfl (q_cp rfl hval2 rfl rfl rfl) ?_
     repeat refine stq rfl ?_
     rw [hwb hp]
     repeat refine stq rfl ?_
     refine ps_run0 (o_storeM (enc := eAcct) { { a with chg := a.chg + v } with bil := a.bil + vb } (kd' := 0) rfl rfl rfl (set_at hg0 { a with chg := a.chg + v }) rfl rfl ⟨trivial,trivial⟩ rfl rfl rfl rfl rfl ?_)
     rw [List.set_set]
     repeat refine stq rfl ?_
     exact ⟨(k + 1,g),hlt,by show l.length - (k + 1) < l.length - k;omega,rfl,rfl,by rw [hst];show PV.als 5 g 0 (A.map eAcct).length = PV.als 5 g 0 ((A.set _ _).map eAcct).length;rw [List.length_map,List.length_map,List.length_set],rfl,rfl,rfl,rfl,rfl,i64_next (by omega) (by omega),by rw [hst];rfl,by rw [hst];rfl,trivial⟩
    ·have hp := of_decide_eq_false h
     clear h
     rw [if_neg hp] at hbl
     rw [hbl,Int.add_zero] at hst
     repeat refine stq rfl ?_
     exact ⟨(k + 1,g),hlt,by show l.length - (k + 1) < l.length - k;omega,rfl,rfl,by rw [hst];show PV.als 5 g 0 (A.map eAcct).length = PV.als 5 g 0 ((A.set _ _).map eAcct).length;rw [List.length_map,List.length_map,List.length_set],rfl,rfl,rfl,rfl,rfl,i64_next (by omega) (by omega),by rw [hst];rfl,by rw [hst];rfl,trivial⟩
   |true =>
    rw [show a.sig + (if true = true then v else 0) = a.sig + v from rfl] at hst
    repeat refine stq rfl ?_
    refine qst rfl rfl (q_ldp rfl rfl rfl (hrow1 { a with chg := a.chg + v }) rfl) ?_
    repeat refine stq rfl ?_
    rw [hws]
    repeat refine stq rfl ?_
    refine ps_run0 (o_storeM (enc := eAcct) { a with chg := a.chg + v,sig := a.sig + v } (kd' := 0) rfl rfl rfl (set_at hg0 { a with chg := a.chg + v }) rfl rfl ⟨trivial,trivial⟩ rfl rfl rfl rfl rfl ?_)
    rw [List.set_set]
    repeat refine stq rfl ?_
    refine qst rfl rfl (q_lookV none (mval_kv ((k : Int) + 1) (covOut l o l.length)) (keyedG_kv _) zone3 rfl rfl rfl rfl rfl rfl rfl rfl rfl) ?_
    rw [hcv]
    repeat refine stq rfl ?_
    refine pw_cond rfl (fun h => ?_) (fun h => ?_)
    ·have hp := of_decide_eq_true h
     clear h
     have hval2 := hval2 hp
     rw [if_pos hp] at hbl
     rw [hbl] at hst
     repeat refine stq rfl ?_
     refine pw_draw 11 [116,117,118,119,120,121,122,123,124,125,126] (by decide +kernel) ?_
     repeat refine stq rfl ?_
     refine qst rfl rfl (q_ldp rfl rfl rfl (hrow1 { a with chg := a.chg + v,sig := a.sig + v }) rfl) ?_
     repeat refine stq rfl ?_
     refine qst rfl rfl (q_cp rfl hval2 rfl rfl rfl) ?_
     repeat refine stq rfl ?_
     rw [hwb hp]
     repeat refine stq rfl ?_
     refine ps_run0 (o_storeM (enc := eAcct) { { a with chg := a.chg + v,sig := a.sig + v } with bil := a.bil + vb } (kd' := 0) rfl rfl rfl (set_at hg0 { a with chg := a.chg + v,sig := a.sig + v }) rfl rfl ⟨trivial,trivial⟩ rfl rfl rfl rfl rfl ?_)
     rw [List.set_set]
     repeat refine stq rfl ?_
     exact ⟨(k + 1,g),hlt,by show l.length - (k + 1) < l.length - k;omega,rfl,rfl,by rw [hst];show PV.als 5 g 0 (A.map eAcct).length = PV.als 5 g 0 ((A.set _ _).map eAcct).length;rw [List.length_map,List.length_map,List.length_set],rfl,rfl,rfl,rfl,rfl,i64_next (by omega) (by omega),by rw [hst];rfl,by rw [hst];rfl,trivial⟩
    ·have hp := of_decide_eq_false h
     clear h
     rw [if_neg hp] at hbl
     rw [hbl,Int.add_zero] at hst
     repeat refine stq rfl ?_
     exact ⟨(k + 1,g),hlt,by show l.length - (k + 1) < l.length - k;omega,rfl,rfl,by rw [hst];show PV.als 5 g 0 (A.map eAcct).length = PV.als 5 g 0 ((A.set _ _).map eAcct).length;rw [List.length_map,List.length_map,List.length_set],rfl,rfl,rfl,rfl,rfl,i64_next (by omega) (by omega),by rw [hst];rfl,by rw [hst];rfl,trivial⟩
  rw [if_neg h3] at hst
  repeat (first|refine stq rfl ?_|refine pw_no rfl ?_|refine pw_yes rfl ?_)
  exact ⟨(k + 1,g),hlt,by show l.length - (k + 1) < l.length - k;omega,rfl,rfl,by rw [hst];rfl,rfl,rfl,rfl,rfl,rfl,i64_next (by omega) (by omega),by rw [hst];rfl,by rw [hst];rfl,trivial⟩
 ·have hz : k = l.length := by have := of_decide_eq_false h;omega
  subst hz
  clear h
  have hinv := accK_inv hA o l.length (Nat.le_refl _)
  have hlim : ∀ a,a ∈ (accK l o l.length).1 → LimA 400000000000 a := fun a ha => (hinv.lim a ha).mono (by omega)
  have hAn : (accK l o l.length).1.length ≤ 400 := Nat.le_trans hinv.len hl
  clear hinv
  rw [accP]
  generalize (accK l o l.length).1 = A at *
  have hAl : ((A.map eAcct).length : Int) = A.length := by simp
  have hA0 : ovrK A 0 = A := by simp [ovrK]
  repeat refine stq rfl ?_
  rw [hAl]
  refine pw_loop (fun j => j ≤ A.length) (fun j => [(5,.als 5 g 0 (A.map eAcct).length),(128,.als 5 g 0 (A.map eAcct).length),(129,I A.length),(130,I j)]) (fun j => [(5,g,⟨185,7,(ovrK A j).map eAcct,0⟩)]) (fun j => A.length - j) 0 (Nat.zero_le _) ⟨rfl,rfl,rfl,rfl,by rw [hA0];rfl,trivial⟩ ?_
  intro j s2 hj
  have hj : j ≤ A.length := hj
  repeat refine stq rfl ?_
  refine pw_cond rfl (fun h => ?_) (fun h => ?_)
  ·have hlt : j < A.length := by have := of_decide_eq_true h;omega
   clear h
   obtain ⟨a,ha⟩ := get_lt hlt
   obtain ⟨hk1,hk2⟩ := ovrK_at ha
   obtain ⟨e1,e2,e3,e4,e5,e6⟩ := hlim a (List.mem_of_getElem? ha)
   have hrow : ((ovrK A j).map eAcct)[0 + (j : Int).toNat]? = some (eAcct a) := by rw [List.getElem?_map,Int.toNat_natCast,Nat.zero_add,hk1];rfl
   have hw1 : IntKind.wrap .i64 (a.chg - a.est) = a.chg - a.est := wrap_i64 (by omega) (by omega)
   have hw2 : IntKind.wrap .i64 (a.chg - a.est - a.gro) = a.chg - a.est - a.gro := wrap_i64 (by omega) (by omega)
   have hAj : j < (A.map eAcct).length := by simpa using hlt
   repeat refine stq rfl ?_
   refine qst rfl rfl (q_idxA rfl rfl rfl rfl rfl rfl rfl (by omega) (by omega)) ?_
   refine qst rfl rfl (q_ldp rfl rfl rfl hrow rfl) ?_
   repeat refine stq rfl ?_
   rw [hw1,hw2]
   have hm : (if 0 < a.chg - a.est - a.gro then a.chg - a.est - a.gro else 0) = max 0 (a.chg - a.est - a.gro) := by split <;> omega
   have hg1 : (ovrK A j)[0 + (j : Int).toNat]? = some a := by rw [Int.toNat_natCast,Nat.zero_add];exact hk1
   have hset : (ovrK A j).set (0 + (j : Int).toNat) (ovrA a) = ovrK A (j + 1) := by rw [Int.toNat_natCast,Nat.zero_add];exact hk2
   repeat refine stq rfl ?_
   rw [hm]
   refine qst rfl rfl (q_idxA rfl rfl rfl rfl rfl rfl rfl (by omega) (by omega)) ?_
   repeat refine stq rfl ?_
   refine ps_run0 (o_storeM (enc := eAcct) (ovrA a) (kd' := 0) rfl rfl rfl hg1 rfl rfl ⟨trivial,trivial⟩ rfl rfl rfl rfl rfl ?_)
   rw [hset]
   repeat refine stq rfl ?_
   exact ⟨j + 1,hlt,by omega,rfl,rfl,rfl,i64_next (by omega) (by omega),rfl,trivial⟩
  ·have hz : j = A.length := by have := of_decide_eq_false h;omega
   subst hz
   have hfull : ovrK A A.length = A.map ovrA := by simp [ovrK]
   rw [hfull]
   repeat refine stq rfl ?_
   exact end1f rfl rfl rfl ⟨rfl,rfl,by simp⟩ rfl
end Go.Pv


set_option maxHeartbeats 2000000
namespace Go.Pv
attribute [local irreducible] PWP POps PQuiet PSem XThen XBlock RetPost InlPost
open Go.Proofs
theorem ordered_ret (l : List SPost) (hO : Ok l) (o : Str) : Ret Tryz.prog .shared 104 [.dref (eBook l) 0,.str o] (I (standE l (ordNo l o))) := by
 have ho := (ordR_at l o).1
 have hs := standing_ret l hO.wf (ordNo l o) (ordNo_le l o).2
 refine Ret.of_pwp layOk mixed Go.Proofs.Tryz.func104 rfl (by decide) rfl rfl ?_
 repeat refine stq rfl ?_
 refine qst rfl rfl (q_lookV none ho (ordR_keyed l) zone3 rfl rfl rfl rfl rfl rfl rfl rfl rfl) ?_
 repeat refine stq rfl ?_
 refine qst rfl rfl (q_cp rfl hs rfl rfl rfl) ?_
 repeat refine stq rfl ?_
 exact end1i rfl rfl rfl
def sumI (A : List SAcct) (f : SAcct → Int) (j : Nat) : Int := ((A.take j).map f).sum
theorem sumI_succ {A : List SAcct} {f : SAcct → Int} {j : Nat} {a : SAcct} (h : A[j]? = some a) : sumI A f (j + 1) = sumI A f j + f a := by
 rw [sumI,take_snoc h,List.map_append,List.sum_append];simp [sumI]
theorem sumI_lim {A : List SAcct} {f : SAcct → Int} {B : Int} (hB : ∀ a,a ∈ A → -B ≤ f a ∧ f a ≤ B) : ∀ j : Nat,j ≤ A.length → -(B * j) ≤ sumI A f j ∧ sumI A f j ≤ B * j
 |0,_ => by simp [sumI]
 |j + 1,h => by
  obtain ⟨a,ha⟩ := get_lt (show j < A.length by omega)
  have ih := sumI_lim hB j (by omega)
  have hb := hB a (List.mem_of_getElem? ha)
  have hm : B * ((j + 1 : Nat) : Int) = B * j + B := by rw [Int.natCast_add,Int.mul_add];simp
  rw [sumI_succ ha,hm]
  omega
def payB (l : List SPost) (o : Str) (k : Nat) : Bool := decide ((entL l ((k : Int) + 1)).op = 7) && decide ((entL l ((k : Int) + 1)).order = o) && liveB l ((k : Int) + 1)
def payK (l : List SPost) (o : Str) : Nat → Int
 |0 => 0
 |k + 1 => if payB l o k = true then payK l o k + (entL l ((k : Int) + 1)).amount else payK l o k
theorem payK_lim {l : List SPost} (h : Acc l) (o : Str) : ∀ k : Nat,k ≤ l.length → -(1000000000 * (k : Int)) ≤ payK l o k ∧ payK l o k ≤ 1000000000 * (k : Int)
 |0,_ => by simp [payK]
 |k + 1,hk => by
  have ih := payK_lim h o k (by omega)
  have := h.amt _ _ (entL_at (l := l) (n := (k : Int) + 1) (by omega) (by omega))
  have h1 := this.1
  have h2 := this.2
  rw [payK]
  split <;> omega
def balV (l : List SPost) (o : Str) : List PV :=
 let A := accP l o
 let n := A.length
 [I (sumI A (·.est) n),I (sumI A (·.gro) n),I (sumI A (·.chg) n),I (sumI A (·.bil) n),I (payK l o l.length),I (sumI A (·.bil) n - payK l o l.length)]
end Go.Pv


set_option maxHeartbeats 2000000
namespace Go.Pv
attribute [local irreducible] PWP POps PQuiet PSem XThen XBlock RetPost InlPost
open Go.Proofs
theorem accP_lim {l : List SPost} (h : Acc l) (o : Str) : (accP l o).length ≤ 400 ∧ ∀ a,a ∈ accP l o → (-400000000000 ≤ a.est ∧ a.est ≤ 400000000000) ∧ (-400000000000 ≤ a.gro ∧ a.gro ≤ 400000000000) ∧ (-400000000000 ≤ a.chg ∧ a.chg ≤ 400000000000) ∧ (-400000000000 ≤ a.bil ∧ a.bil ≤ 400000000000) := by
 have hinv := accK_inv h o l.length (Nat.le_refl _)
 have hl := h.ok.wf.len
 refine ⟨by rw [accP,List.length_map];exact Nat.le_trans hinv.len hl,fun a ha => ?_⟩
 rw [accP,List.mem_map] at ha
 obtain ⟨b,hb,rfl⟩ := ha
 obtain ⟨e1,e2,e3,e4,e5,e6⟩ := hinv.lim b hb
 simp only [ovrA]
 omega
set_option maxRecDepth 20000 in
theorem balance_ret (l : List SPost) (hA : Acc l) (o : Str) : Ret Tryz.prog .fresh 55 [.dref (eBook l) 0,.str o] (if standE l (ordNo l o) = 0 then .tup [.agg (balV l o),I 0] else .tup [.agg [I 0,I 0,I 0,I 0,I 0,I 0],I (standE l (ordNo l o))]) := by
 have hO := hA.ok
 have hl := hO.wf.len
 have hll : ((l.map ePost).length : Int) = l.length := by simp
 have h44 := ordered_ret l hO o
 have h45 := accounts_ret l hA o
 obtain ⟨hAn,hlim⟩ := accP_lim hA o
 by_cases hz : standE l (ordNo l o) = 0
 case neg =>
  rw [if_neg hz]
  refine Ret.of_pwp layOk mixed Go.Proofs.Tryz.func55 rfl (by decide) rfl rfl ?_
  repeat refine stq rfl ?_
  refine qst rfl rfl (q_cp rfl h44 rfl rfl rfl) ?_
  repeat refine stq rfl ?_
  refine pw_cond rfl (fun h => ?_) (fun h => ?_)
  ·repeat refine stq rfl ?_
   exact endc2f rfl rfl rfl rfl rfl (by repeat' constructor) rfl
  ·exact absurd (of_decide_eq_true (by simpa only [Bool.not_eq_false'] using h)) hz
 rw [if_pos hz,balV]
 rw [hz] at h44
 generalize accP l o = A at *
 have hAl : ((A.map eAcct).length : Int) = A.length := by simp
 have b1 := fun j hj => sumI_lim (A := A) (f := (·.est)) (B := 400000000000) (fun a ha => (hlim a ha).1) j hj
 have b2 := fun j hj => sumI_lim (A := A) (f := (·.gro)) (B := 400000000000) (fun a ha => (hlim a ha).2.1) j hj
 have b3 := fun j hj => sumI_lim (A := A) (f := (·.chg)) (B := 400000000000) (fun a ha => (hlim a ha).2.2.1) j hj
 have b4 := fun j hj => sumI_lim (A := A) (f := (·.bil)) (B := 400000000000) (fun a ha => (hlim a ha).2.2.2) j hj
 refine Ret.of_pwp layOk mixed Go.Proofs.Tryz.func55 rfl (by decide) rfl rfl ?_
 repeat refine stq rfl ?_
 refine qst rfl rfl (q_cp rfl h44 rfl rfl rfl) ?_
 repeat refine stq rfl ?_
 refine qst rfl rfl (q_cf rfl h45 rfl rfl) ?_
 repeat refine stq rfl ?_
 rw [hAl]
 refine pw_loop (fun j => j ≤ A.length) (fun j => [(0,.dref (eBook l) 0),(1,.str o),(4,.ptr 4 1 0 0),(7,.ptr 7 1 0 0),(21,.fsl (A.map eAcct)),(22,I A.length),(23,I j)])
  (fun j => [(4,1,⟨106,6,[[I 0,I 0,I 0,I 0,I 0,I 0]],2⟩),(7,1,⟨106,6,[[I (sumI A (·.est) j),I (sumI A (·.gro) j),I (sumI A (·.chg) j),I (sumI A (·.bil) j),I 0,I 0]],2⟩)]) (fun j => A.length - j) 0 (Nat.zero_le _) ⟨rfl,rfl,rfl,rfl,rfl,rfl,rfl,rfl,rfl,trivial⟩ ?_
 intro j s hj
 have hj : j ≤ A.length := hj
 repeat refine stq rfl ?_
 refine pw_cond rfl (fun h => ?_) (fun h => ?_)
 ·have hlt : j < A.length := by have := of_decide_eq_true h;omega
  clear h
  obtain ⟨a,ha⟩ := get_lt hlt
  have w : ∀ (f : SAcct → Int),(∀ j,j ≤ A.length → -(400000000000 * (j : Int)) ≤ sumI A f j ∧ sumI A f j ≤ 400000000000 * (j : Int)) → IntKind.wrap .i64 (sumI A f j + f a) = sumI A f (j + 1) := fun f hb => by
   have := hb (j + 1) hlt
   rw [← sumI_succ ha,wrap_i64 (by omega) (by omega)]
  have w1 := w _ b1
  have w2 := w _ b2
  have w3 := w _ b3
  have w4 := w _ b4
  repeat refine stq rfl ?_
  refine qst rfl rfl (q_idxmF rfl rfl rfl rfl rfl (by omega) ha rfl) ?_
  repeat refine stq rfl ?_
  exact ⟨j + 1,hlt,by omega,rfl,rfl,rfl,rfl,rfl,rfl,i64_next (by omega) (by omega),rfl,by rw [← w1,← w2,← w3,← w4];rfl,trivial⟩
 ·have hz : j = A.length := by have := of_decide_eq_false h;omega
  subst hz
  clear h
  have b4 := b4 A.length (Nat.le_refl _)
  generalize sumI A (·.est) A.length = s1 at *
  generalize sumI A (·.gro) A.length = s2 at *
  generalize sumI A (·.chg) A.length = s3 at *
  generalize sumI A (·.bil) A.length = s4 at *
  repeat refine stq rfl ?_
  rw [hll]
  refine pw_loop (fun k => k ≤ l.length) (fun k => [(0,.dref (eBook l) 0),(1,.str o),(4,.ptr 4 1 0 0),(7,.ptr 7 1 0 0),(55,.sl (l.map ePost)),(56,I l.length),(57,I k)])
   (fun k => [(4,1,⟨106,6,[[I 0,I 0,I 0,I 0,I 0,I 0]],2⟩),(7,1,⟨106,6,[[I s1,I s2,I s3,I s4,I (payK l o k),I 0]],2⟩)]) (fun k => l.length - k) 0 (Nat.zero_le _) ⟨rfl,rfl,rfl,rfl,rfl,rfl,rfl,rfl,rfl,trivial⟩ ?_
  intro k s5 hk
  have hk : k ≤ l.length := hk
  have hpl := payK_lim hA o k hk
  repeat refine stq rfl ?_
  refine pw_cond rfl (fun h => ?_) (fun h => ?_)
  ·have hlt : k < l.length := by have := of_decide_eq_true h;omega
   clear h
   have hx : l[k]? = some (entL l ((k : Int) + 1)) := by
    have := entL_at (l := l) (n := (k : Int) + 1) (by omega) (by omega)
    rwa [show ((k : Int) + 1 - 1).toNat = k by omega] at this
   have hv := live_ret l hO.wf ((k : Int) + 1) (by omega)
   have hst : payK l o (k + 1) = if payB l o k = true then payK l o k + (entL l ((k : Int) + 1)).amount else payK l o k := rfl
   have hw : IntKind.wrap .i64 ((k : Int) + 1) = (k : Int) + 1 := wrap_i64 (by omega) (by omega)
   have hpl2 := payK_lim hA o (k + 1) hlt
   rw [payB] at hst
   generalize entL l ((k : Int) + 1) = x at *
   repeat refine stq rfl ?_
   refine qst rfl rfl (q_idxm rfl rfl rfl rfl rfl (by omega) hx rfl) ?_
   repeat refine stq rfl ?_
   (first|refine ps_split rfl rfl ?_ ?_|refine pq_split rfl rfl ?_ ?_|refine p3_split rfl rfl ?_ ?_)<;>intro h
   rotate_left
   ·have g1 := of_decide_eq_false h
    rw [decide_eq_false g1,Bool.false_and,Bool.false_and,if_neg (by simp)] at hst
    repeat refine stq rfl ?_
    exact ⟨k + 1,hlt,by omega,rfl,rfl,rfl,rfl,rfl,rfl,i64_next (by omega) (by omega),rfl,by rw [hst];rfl,trivial⟩
   have g1 := of_decide_eq_true h
   clear h
   rw [decide_eq_true g1,Bool.true_and] at hst
   repeat refine stq rfl ?_
   (first|refine ps_split rfl rfl ?_ ?_|refine pq_split rfl rfl ?_ ?_|refine p3_split rfl rfl ?_ ?_)<;>intro h
   rotate_left
   ·have g2 := of_decide_eq_false h
    rw [decide_eq_false g2,Bool.false_and,if_neg (by simp)] at hst
    repeat refine stq rfl ?_
    exact ⟨k + 1,hlt,by omega,rfl,rfl,rfl,rfl,rfl,rfl,i64_next (by omega) (by omega),rfl,by rw [hst];rfl,trivial⟩
   have g2 := of_decide_eq_true h
   clear h
   rw [decide_eq_true g2,Bool.true_and] at hst
   generalize liveB l ((k : Int) + 1) = lv at *
   repeat refine stq rfl ?_
   rw [hw]
   refine qst rfl rfl (q_cp rfl hv rfl rfl rfl) ?_
   cases lv with
   |false =>
    rw [if_neg (by simp)] at hst
    repeat refine stq rfl ?_
    exact ⟨k + 1,hlt,by omega,rfl,rfl,rfl,rfl,rfl,rfl,i64_next (by omega) (by omega),rfl,by rw [hst];rfl,trivial⟩
   |true =>
    rw [if_pos rfl] at hst
    have hwp : IntKind.wrap .i64 (payK l o k + x.amount) = payK l o (k + 1) := by rw [← hst,wrap_i64 (by omega) (by omega)]
    repeat refine stq rfl ?_
    exact ⟨k + 1,hlt,by omega,rfl,rfl,rfl,rfl,rfl,rfl,i64_next (by omega) (by omega),rfl,by rw [← hwp];rfl,trivial⟩
  ·have hz : k = l.length := by have := of_decide_eq_false h;omega
   subst hz
   have hwd : IntKind.wrap .i64 (s4 - payK l o l.length) = s4 - payK l o l.length := wrap_i64 (by omega) (by omega)
   repeat refine stq rfl ?_
   rw [hwd]
   repeat refine stq rfl ?_
   exact endc2f rfl rfl rfl rfl rfl (by repeat' constructor) rfl
end Go.Pv


set_option maxHeartbeats 2000000
namespace Go.Pv
attribute [local irreducible] PWP POps PQuiet PSem XThen XBlock RetPost InlPost
open Go.Proofs
def ofI (l : List SPost) (n i : Int) : Bool := decide ((entL l i).order = (entL l n).order) && decide ((entL l i).item = (entL l n).item) && liveB l i
def accT (l : List SPost) (i : Int) (a : SAcct) : SAcct :=
 if (entL l i).op = 2 then (if sgdB l i l.length 1 = true then { a with gro := a.gro + valF l i l.length } else a)
 else if (entL l i).op = 3 then { a with chg := a.chg + valF l i l.length,sig := a.sig + (if sgdB l i l.length 0 = true then valF l i l.length else 0),bil := a.bil + billF l i }
 else a
def accA (l : List SPost) (n : Int) : Nat → SAcct
 |0 => ⟨(entL l n).item,valF l n l.length,0,0,0,0,0⟩
 |k + 1 => if ofI l n ((k : Int) + 1) = true then accT l ((k : Int) + 1) (accA l n k) else accA l n k
def itB (l : List SPost) (o : Str) (n : Int) : Bool := decide ((entL l n).op = 1) && accI o l n
def itsK (l : List SPost) (o : Str) : Nat → List Int
 |0 => []
 |k + 1 => if itB l o ((k : Int) + 1) = true then itsK l o k ++ [(k : Int) + 1] else itsK l o k
theorem its_mem {l : List SPost} {o : Str} : ∀ {k : Nat} {n : Int},n ∈ itsK l o k → 1 ≤ n ∧ n ≤ k ∧ itB l o n = true
 |0,n,h => by simp [itsK] at h
 |k + 1,n,h => by
  rw [itsK] at h
  split at h
  ·rename_i hb
   rcases List.mem_append.1 h with h | h
   ·have := its_mem h;exact ⟨this.1,by omega,this.2.2⟩
   ·simp only [List.mem_cons,List.not_mem_nil,or_false] at h
    subst h
    exact ⟨by omega,by omega,hb⟩
  ·have := its_mem h;exact ⟨this.1,by omega,this.2.2⟩
theorem its_has {l : List SPost} {o : Str} {n : Int} (h1 : 1 ≤ n) (hb : itB l o n = true) : ∀ {k : Nat},n ≤ k → n ∈ itsK l o k
 |0,h => by omega
 |k + 1,h => by
  rw [itsK]
  by_cases he : n = (k : Int) + 1
  ·subst he;rw [if_pos hb];simp
  ·have := its_has h1 hb (k := k) (by omega)
   split
   ·simp [this]
   ·exact this
theorem item_at {l : List SPost} (h : Acc l) {j : Int} (h1 : 1 ≤ j) (h2 : j ≤ l.length) (ho : (entL l j).op = 1) : itmNo l (entL l j).order (entL l j).item = j := by
 have he := entL_at h1 h2
 obtain ⟨hr,_⟩ := h.at_ _ _ he
 have r2 := (refE_zero (refusalR_zero hr).2.2.2).2.2.1 ho
 rw [itmNo] at r2 ⊢
 have hno : ∀ (m : Nat) b,m < (j - 1).toNat → l[m]? = some b → (decide (b.op = 1) && decide (b.order = (entL l j).order) && decide (b.item = (entL l j).item)) = false := by
  intro m b hm hb
  cases hp : (decide (b.op = 1) && decide (b.order = (entL l j).order) && decide (b.item = (entL l j).item)) with
  |false => rfl
  |true =>
   exfalso
   have hn := idx_nonneg (l.take (j - 1).toNat) (fun p => decide (p.op = 1) && decide (p.order = (entL l j).order) && decide (p.item = (entL l j).item))
   have hany : (l.take (j - 1).toNat).any (fun p => decide (p.op = 1) && decide (p.order = (entL l j).order) && decide (p.item = (entL l j).item)) = true := by
    refine List.any_eq_true.2 ⟨b,?_,hp⟩
    refine List.mem_of_getElem? (i := m) ?_
    rw [List.getElem?_take,if_pos hm];exact hb
   rw [hany] at hn
   have := of_decide_eq_true hn
   omega
 rw [idx_found he (by simp [ho]) hno]
 omega
theorem item_one {l : List SPost} (h : Acc l) {n j : Int} (h1 : 1 ≤ j) (h2 : j ≤ l.length) (ho : (entL l j).op = 1) (g1 : 1 ≤ n) (g2 : n ≤ l.length) (go : (entL l n).op = 1) (e1 : (entL l n).order = (entL l j).order) (e2 : (entL l n).item = (entL l j).item) : n = j := by
 have a := item_at h h1 h2 ho
 have b := item_at h g1 g2 go
 rw [e1,e2,a] at b
 exact b.symm
theorem acc_itemN {l : List SPost} (h : Acc l) {o : Str} {k : Nat} (hk : k < l.length) (hi : accI o l ((k : Int) + 1) = true) (ho : (entL l ((k : Int) + 1)).op = 2 ∨ (entL l ((k : Int) + 1)).op = 3) :
  ∃ j : Int,1 ≤ j ∧ j ≤ k ∧ (entL l j).op = 1 ∧ (entL l j).order = (entL l ((k : Int) + 1)).order ∧ (entL l j).item = (entL l ((k : Int) + 1)).item ∧ accI o l j = true := by
 have hO := h.ok
 have he := entL_at (l := l) (n := (k : Int) + 1) (by omega) (by omega)
 rw [show ((k : Int) + 1 - 1).toNat = k by omega] at he
 simp only [accI,Bool.and_eq_true,decide_eq_true_eq] at hi
 have hpos := (hO.pos _ _ he).2.1 ho
 have hlt := hO.wf.sup _ _ he
 have hsu : supNo l (entL l ((k : Int) + 1)) = itmNo l (entL l ((k : Int) + 1)).order (entL l ((k : Int) + 1)).item := by rw [supNo,if_neg (by omega),if_pos ho]
 have hlv := liveB_pos hO.wf (n := (k : Int) + 1) (by omega)
 rw [hi.2,hsu] at hlv
 have hlv := (Bool.and_eq_true_iff.1 hlv.symm).2
 rw [hsu] at hlt
 generalize hj : itmNo l (entL l ((k : Int) + 1)).order (entL l ((k : Int) + 1)).item = j at *
 rw [itmNo] at hj
 obtain ⟨x,hx,hxp⟩ := idx_lt (l := l) (p := fun p => decide (p.op = 1) && decide (p.order = (entL l ((k : Int) + 1)).order) && decide (p.item = (entL l ((k : Int) + 1)).item)) (by omega)
 have hxe : entL l j = x := by
  have := entL_at (l := l) (n := j) (by omega) (by omega)
  rw [show (j - 1).toNat = (idx l fun p => decide (p.op = 1) && decide (p.order = (entL l ((k : Int) + 1)).order) && decide (p.item = (entL l ((k : Int) + 1)).item)).toNat by omega,hx] at this
  exact (Option.some.inj this).symm
 simp only [Bool.and_eq_true,decide_eq_true_eq] at hxp
 exact ⟨j,by omega,by omega,by rw [hxe];exact hxp.1.1,by rw [hxe];exact hxp.1.2,by rw [hxe];exact hxp.2,by rw [accI,hxe,hxp.1.2,hi.1,hlv];simp⟩
theorem acc_early {l : List SPost} (h : Acc l) {n : Int} (g1 : 1 ≤ n) (g2 : n ≤ l.length) (go : (entL l n).op = 1) : ∀ k : Nat,(k : Int) ≤ n → accA l n k = ⟨(entL l n).item,valF l n l.length,0,0,0,0,0⟩
 |0,_ => rfl
 |k + 1,hk => by
  have ih := acc_early h g1 g2 go k (by omega)
  rw [accA,ih]
  split
  ·rename_i hof
   simp only [ofI,Bool.and_eq_true,decide_eq_true_eq] at hof
   have hno : ¬ ((entL l ((k : Int) + 1)).op = 2 ∨ (entL l ((k : Int) + 1)).op = 3) := fun ho => by
    obtain ⟨j,j1,j2,j3,j4,j5,_⟩ := acc_itemN h (o := (entL l ((k : Int) + 1)).order) (k := k) (by omega) (by simp [accI,hof.2]) ho
    have := item_one h j1 (by omega) j3 g1 g2 go (by rw [j4];exact hof.1.1.symm) (by rw [j5];exact hof.1.2.symm)
    omega
   rw [accT,if_neg (fun e => hno (.inl e)),if_neg (fun e => hno (.inr e))]
  ·rfl
theorem accK_items {l : List SPost} (h : Acc l) (o : Str) : ∀ k : Nat,k ≤ l.length → (accK l o k).1 = (itsK l o k).map (fun n => accA l n k) ∧ ∀ (j : Nat) n,(itsK l o k)[j]? = some n → sget (accK l o k).2 (entL l n).item = j
 |0,_ => ⟨rfl,fun j n hj => by simp [itsK] at hj⟩
 |k + 1,hk => by
  obtain ⟨h1,h2⟩ := accK_items h o k (by omega)
  have hm : ∀ n,n ∈ itsK l o k → 1 ≤ n ∧ n ≤ k ∧ itB l o n = true := fun n hn => its_mem hn
  have hhas : ∀ n,1 ≤ n → itB l o n = true → n ≤ k → n ∈ itsK l o k := fun n a b c => its_has a b c
  rw [accK,itsK]
  generalize accK l o k = M at *
  obtain ⟨A,T⟩ := M
  simp only at h1 h2
  subst h1
  rw [accS]
  dsimp only
  have hsame : ∀ n,n ∈ itsK l o k → (ofI l n ((k : Int) + 1) = true → accT l ((k : Int) + 1) (accA l n k) = accA l n k) → accA l n k = accA l n (k + 1) := fun n _ hs => by
   rw [accA]
   split
   ·exact (hs (by assumption)).symm
   ·rfl
  by_cases hi : accI o l ((k : Int) + 1) = false
  ·rw [if_pos hi,if_neg (show ¬ itB l o ((k : Int) + 1) = true by simp [itB,hi])]
   refine ⟨List.map_congr_left fun n hn => hsame n hn fun hof => ?_,h2⟩
   have hb := (hm n hn).2.2
   simp only [itB,accI,ofI,Bool.and_eq_true,decide_eq_true_eq] at hb hof
   rw [accI,hof.1.1,hb.2.1,hof.2] at hi
   simp at hi
  have hi' : accI o l ((k : Int) + 1) = true := by simpa using hi
  have hord : (entL l ((k : Int) + 1)).order = o := by simp only [accI,Bool.and_eq_true,decide_eq_true_eq] at hi';exact hi'.1
  have hordn : ∀ n,n ∈ itsK l o k → (entL l n).op = 1 ∧ (entL l n).order = o := fun n hn => by
   have hb := (hm n hn).2.2
   simp only [itB,accI,Bool.and_eq_true,decide_eq_true_eq] at hb
   exact ⟨hb.1,hb.2.1⟩
  rw [if_neg hi]
  by_cases o1 : (entL l ((k : Int) + 1)).op = 1
  ·rw [if_pos o1,if_pos (show itB l o ((k : Int) + 1) = true by simp [itB,o1,hi'])]
   dsimp only
   refine ⟨?_,fun j n hj => ?_⟩
   ·rw [List.map_append]
    congr 1
    ·exact List.map_congr_left fun n hn => hsame n hn fun _ => by rw [accT,if_neg (by omega),if_neg (by omega)]
    ·have := acc_early h (n := (k : Int) + 1) (by omega) (by omega) o1 (k + 1) (by omega)
     simp only [List.map_cons,List.map_nil]
     rw [this]
   ·rw [sget_sput]
    rcases snoc_get hj with ⟨_,hj⟩ | ⟨rfl,rfl⟩
    ·have hn := List.mem_of_getElem? hj
     rw [if_neg (fun e => ?_)]
     ·exact h2 j n hj
     ·have := item_one h (n := n) (j := (k : Int) + 1) (by omega) (by omega) o1 (hm n hn).1 (by have := (hm n hn).2.1;omega) (hordn n hn).1 (by rw [hord,(hordn n hn).2]) e.symm
      have := (hm n hn).2.1
      omega
    ·rw [if_pos rfl,List.length_map]
  rw [if_neg o1,if_neg (show ¬ itB l o ((k : Int) + 1) = true by simp [itB,o1])]
  have hmod : ∀ f : SAcct → SAcct,((entL l ((k : Int) + 1)).op = 2 ∨ (entL l ((k : Int) + 1)).op = 3) → (∀ a,accT l ((k : Int) + 1) a = f a) → (((itsK l o k).map (fun n => accA l n k)).modify (sget T (entL l ((k : Int) + 1)).item).toNat f,T).1 = (itsK l o k).map (fun n => accA l n (k + 1)) := by
   intro f ho hf
   obtain ⟨n0,p1,p2,p3,p4,p5,p6⟩ := acc_itemN h (by omega) hi' ho
   have hin := hhas n0 p1 (by rw [itB,p6];simp [p3]) p2
   obtain ⟨j0,hj0,hg0⟩ := List.getElem_of_mem hin
   have hg0 : (itsK l o k)[j0]? = some n0 := by rw [List.getElem?_eq_getElem hj0,hg0]
   have hs0 := h2 j0 n0 hg0
   rw [p5] at hs0
   rw [hs0,Int.toNat_natCast]
   refine List.ext_getElem? fun j => ?_
   rw [List.getElem?_modify,List.getElem?_map,List.getElem?_map]
   cases hj : (itsK l o k)[j]? with
   |none => simp
   |some n =>
    have hn := List.mem_of_getElem? hj
    have hiff : ofI l n ((k : Int) + 1) = true ↔ n = n0 := by
     constructor
     ·intro hof
      simp only [ofI,Bool.and_eq_true,decide_eq_true_eq] at hof
      exact item_one h p1 (by omega) p3 (hm n hn).1 (by have := (hm n hn).2.1;omega) (hordn n hn).1 (by rw [p4];exact hof.1.1.symm) (by rw [p5];exact hof.1.2.symm)
     ·rintro rfl
      simp only [accI,Bool.and_eq_true,decide_eq_true_eq] at hi'
      simp [ofI,p4,p5,hi'.2]
    simp only [Option.map_some]
    split
    ·rename_i hjj
     have : n = n0 := by rw [hjj,hj] at hg0;exact Option.some.inj hg0
     rw [accA,if_pos (hiff.2 this),hf];rfl
    ·rename_i hjj
     have : n ≠ n0 := fun e => by
      have e1 := h2 j n hj
      rw [e,p5,hs0] at e1
      omega
     rw [accA,if_neg (fun e => this (hiff.1 e))];rfl
  by_cases o2 : (entL l ((k : Int) + 1)).op = 2
  ·rw [if_pos o2]
   split
   ·rename_i hs
    refine ⟨hmod _ (.inl o2) fun a => ?_,h2⟩
    rw [accT,if_pos o2,if_pos hs]
   ·rename_i hs
    refine ⟨List.map_congr_left fun n hn => hsame n hn fun _ => ?_,h2⟩
    rw [accT,if_pos o2,if_neg hs]
  rw [if_neg o2]
  by_cases o3 : (entL l ((k : Int) + 1)).op = 3
  ·rw [if_pos o3]
   refine ⟨hmod _ (.inr o3) fun a => ?_,h2⟩
   rw [accT,if_neg o2,if_pos o3]
  ·rw [if_neg o3]
   refine ⟨List.map_congr_left fun n hn => hsame n hn fun _ => ?_,h2⟩
   rw [accT,if_neg o2,if_neg o3]
theorem accP_items {l : List SPost} (h : Acc l) (o : Str) : accP l o = (itsK l o l.length).map (fun n => ovrA (accA l n l.length)) := by
 rw [accP,(accK_items h o l.length (Nat.le_refl _)).1,List.map_map];rfl
end Go.Pv


set_option maxHeartbeats 2000000
namespace Go.Pv
attribute [local irreducible] PWP POps PQuiet PSem XThen XBlock RetPost InlPost
open Go.Proofs
theorem valF_succ (l : List SPost) (n : Int) (j : Nat) : valF l n (j + 1) = if ofB l 5 n ((j : Int) + 1) = true then (entL l ((j : Int) + 1)).amount else valF l n j := by
 rw [valF,latF]
 split
 ·rw [if_pos (by omega)]
 ·rfl
set_option maxRecDepth 20000 in
theorem worth_ref (l : List SPost) (hO : Ok l) (n : Int) (b : Nat) (h1 : 1 ≤ n) (h2 : n ≤ l.length) (hb : b ≤ l.length) : Ret Tryz.prog .shared 212 [.sl (l.map ePost),I n,I (b + 1)] (I (valF l n b)) := by
 have hl := hO.wf.len
 have hn := entL_at h1 h2
 have hwn : IntKind.wrap .i64 (n - 1) = n - 1 := wrap_i64 (by omega) (by omega)
 have h0 : valF l n 0 = (entL l n).amount := by rw [valF,latF];simp
 refine Ret.of_pwp layOk mixed Go.Proofs.Tryz.func212 rfl (by decide) rfl rfl ?_
 repeat refine stq rfl ?_
 rw [hwn]
 refine qst rfl rfl (q_idxm rfl rfl rfl rfl rfl (by omega) hn rfl) ?_
 repeat refine stq rfl ?_
 refine pw_loop (fun j => j ≤ b) (fun j => [(0,.sl (l.map ePost)),(1,I n),(2,I (b + 1)),(7,I (valF l n j)),(8,I (j + 1))]) (fun _ => []) (fun j => b - j) 0 (Nat.zero_le _) ⟨rfl,rfl,rfl,by rw [h0];rfl,rfl,trivial⟩ ?_
 intro j s hj
 have hj : j ≤ b := hj
 repeat refine stq rfl ?_
 refine pw_cond rfl (fun h => ?_) (fun h => ?_)
 ·have hjb : j < b := by have := of_decide_eq_true h;omega
  clear h
  have he := entL_at (l := l) (n := (j : Int) + 1) (by omega) (by omega)
  have hv := live_ref l hO.wf ((j : Int) + 1).toNat ((j : Int) + 1) (by omega) (by omega) (by omega)
  have hs := valF_succ l n j
  have hw : IntKind.wrap .i64 ((j : Int) + 1 - 1) = (j : Int) + 1 - 1 := wrap_i64 (by omega) (by omega)
  rw [ofB] at hs
  repeat refine stq rfl ?_
  rw [hw]
  refine qst rfl rfl (q_idxm rfl rfl rfl rfl rfl (by omega) he rfl) ?_
  generalize entL l ((j : Int) + 1) = p at *
  repeat refine stq rfl ?_
  (first|refine ps_split rfl rfl ?_ ?_|refine pq_split rfl rfl ?_ ?_|refine p3_split rfl rfl ?_ ?_)<;>intro h
  rotate_left
  ·have g1 : ¬ p.op = 5 := by simpa using h
   rw [decide_eq_false g1,Bool.false_and,Bool.false_and,if_neg (by simp)] at hs
   repeat refine stq rfl ?_
   exact ⟨j + 1,hjb,by omega,rfl,rfl,rfl,by rw [hs];rfl,i64_next (by omega) (by omega),trivial⟩
  have g1 : p.op = 5 := by simpa using h
  clear h
  rw [decide_eq_true g1,Bool.true_and] at hs
  repeat refine stq rfl ?_
  rw [hw]
  refine qst rfl rfl (q_idxm rfl rfl rfl rfl rfl (by omega) he rfl) ?_
  repeat refine stq rfl ?_
  (first|refine ps_split rfl rfl ?_ ?_|refine pq_split rfl rfl ?_ ?_|refine p3_split rfl rfl ?_ ?_)<;>intro h
  rotate_left
  ·have g2 : ¬ p.ref = n := by simpa using h
   rw [decide_eq_false g2,Bool.false_and,if_neg (by simp)] at hs
   repeat refine stq rfl ?_
   exact ⟨j + 1,hjb,by omega,rfl,rfl,rfl,by rw [hs];rfl,i64_next (by omega) (by omega),trivial⟩
  have g2 : p.ref = n := by simpa using h
  clear h
  rw [decide_eq_true g2,Bool.true_and] at hs
  generalize liveB l ((j : Int) + 1) = lv at *
  repeat refine stq rfl ?_
  refine qst rfl rfl (q_cp rfl hv rfl rfl rfl) ?_
  cases lv with
  |false =>
   rw [if_neg (by simp)] at hs
   repeat refine stq rfl ?_
   exact ⟨j + 1,hjb,by omega,rfl,rfl,rfl,by rw [hs];rfl,i64_next (by omega) (by omega),trivial⟩
  |true =>
   rw [if_pos rfl] at hs
   repeat refine stq rfl ?_
   rw [hw]
   refine qst rfl rfl (q_idxm rfl rfl rfl rfl rfl (by omega) he rfl) ?_
   repeat refine stq rfl ?_
   exact ⟨j + 1,hjb,by omega,rfl,rfl,rfl,by rw [hs];rfl,i64_next (by omega) (by omega),trivial⟩
 ·have hz : j = b := by have := of_decide_eq_false h;omega
  subst hz
  repeat refine stq rfl ?_
  exact end1i rfl rfl rfl
theorem accT_lim {l : List SPost} (h : Acc l) {i : Int} (h1 : 1 ≤ i) (h2 : i ≤ l.length) {B : Int} {a : SAcct} (ha : LimA B a) (hB : 0 ≤ B) : LimA (B + 1000000000) (accT l i a) := by
 have hv := valF_lim h i l.length h1 h2 (Nat.le_refl _)
 have hb := billF_lim h h1 h2
 have hm := ha.mono (B' := B + 1000000000) (by omega)
 obtain ⟨e1,e2,e3,e4,e5,e6⟩ := ha
 have := hv.1;have := hv.2;have := hb.1;have := hb.2
 rw [accT]
 split
 ·split
  ·exact ⟨⟨by simp only;omega,by simp only;omega⟩,⟨by simp only;omega,by simp only;omega⟩,⟨by simp only;omega,by simp only;omega⟩,⟨by simp only;omega,by simp only;omega⟩,⟨by simp only;omega,by simp only;omega⟩,e6⟩
  ·exact hm
 ·split
  ·exact ⟨⟨by simp only;omega,by simp only;omega⟩,⟨by simp only;omega,by simp only;omega⟩,⟨by simp only;omega,by simp only;omega⟩,⟨by simp only;split <;> omega,by simp only;split <;> omega⟩,⟨by simp only;omega,by simp only;omega⟩,e6⟩
  ·exact hm
theorem accA_lim {l : List SPost} (h : Acc l) {n : Int} (h1 : 1 ≤ n) (h2 : n ≤ l.length) : ∀ k : Nat,k ≤ l.length → LimA (1000000000 * ((k : Int) + 1)) (accA l n k)
 |0,_ => by
  have hv := valF_lim h n l.length h1 h2 (Nat.le_refl _)
  have := hv.1;have := hv.2
  exact ⟨⟨by simp only [accA];omega,by simp only [accA];omega⟩,⟨by simp only [accA];omega,by simp only [accA];omega⟩,⟨by simp only [accA];omega,by simp only [accA];omega⟩,⟨by simp only [accA];omega,by simp only [accA];omega⟩,⟨by simp only [accA];omega,by simp only [accA];omega⟩,rfl⟩
 |k + 1,hk => by
  have ih := accA_lim h h1 h2 k (by omega)
  rw [accA]
  split
  ·have := accT_lim h (i := (k : Int) + 1) (by omega) (by omega) ih (by omega)
   exact this.mono (by omega)
  ·exact ih.mono (by omega)
theorem max_zero (n : Int) : (if (0 : Int) < n then n else 0) = max 0 n := by
 rw [Int.max_def];split <;> split <;> omega
set_option maxRecDepth 20000 in
theorem account_ref (l : List SPost) (hA : Acc l) (n : Int) (h1 : 1 ≤ n) (h2 : n ≤ l.length) : Ret Tryz.prog .shared 171 [.sl (l.map ePost),I n] (.agg (eAcct (ovrA (accA l n l.length)))) := by
 have hO := hA.ok
 have hl := hO.wf.len
 have hll : ((l.map ePost).length : Int) = l.length := by simp
 have hn := entL_at h1 h2
 have hwn : IntKind.wrap .i64 (n - 1) = n - 1 := wrap_i64 (by omega) (by omega)
 have hwl : IntKind.wrap .i64 ((l.length : Int) + 1) = (l.length : Int) + 1 := wrap_i64 (by omega) (by omega)
 have hval := worth_ref l hO n l.length h1 h2 (Nat.le_refl _)
 have ha0 : accA l n 0 = ⟨(entL l n).item,valF l n l.length,0,0,0,0,0⟩ := rfl
 have hlim := accA_lim hA h1 h2
 have hsuc : ∀ k : Nat,accA l n (k + 1) = if ofI l n ((k : Int) + 1) = true then accT l ((k : Int) + 1) (accA l n k) else accA l n k := fun k => rfl
 generalize accA l n = F at *
 refine Ret.of_pwp layOk mixed Go.Proofs.Tryz.func171 rfl (by decide) rfl rfl ?_
 repeat refine stq rfl ?_
 rw [hll,hwl]
 refine pw_draw2 11 1 [13,14,15,16,17,18,19,20,21,22,23,6] [] (by decide +kernel) rfl ?_
 repeat refine stq rfl ?_
 rw [hwn]
 refine qst rfl rfl (q_idxm rfl rfl rfl rfl rfl (by omega) hn rfl) ?_
 repeat refine stq rfl ?_
 refine qst rfl rfl (q_cp rfl hval rfl rfl rfl) ?_
 repeat refine stq rfl ?_
 refine pw_loop (fun k => k ≤ l.length) (fun k => [(0,.sl (l.map ePost)),(1,I n),(4,.ptr 4 1 0 0),(5,I ((l.length : Int) + 1)),(6,.ptr 6 1 0 0),(7,I (k + 1))]) (fun k => [(4,1,⟨185,7,[[.str [],I 0,I 0,I 0,I 0,I 0,I 0]],2⟩),(6,1,⟨185,7,[eAcct (F k)],2⟩)]) (fun k => l.length - k) 0 (Nat.zero_le _) ⟨rfl,rfl,rfl,rfl,rfl,rfl,rfl,by rw [ha0];rfl,trivial⟩ ?_
 intro k s hk
 have hk : k ≤ l.length := hk
 have hFl := hlim k hk
 obtain ⟨⟨b1,b2⟩,⟨b3,b4⟩,⟨b5,b6⟩,⟨b7,b8⟩,⟨b9,b10⟩,b11⟩ := hFl
 repeat refine stq rfl ?_
 rw [hll]
 refine pw_cond rfl (fun h => ?_) (fun h => ?_)
 ·have hlt : k < l.length := by have := of_decide_eq_true h;omega
  clear h
  have he := entL_at (l := l) (n := (k : Int) + 1) (by omega) (by omega)
  have hw : IntKind.wrap .i64 ((k : Int) + 1 - 1) = (k : Int) + 1 - 1 := wrap_i64 (by omega) (by omega)
  have hF := hsuc k
  have hv := live_ref l hO.wf ((k : Int) + 1).toNat ((k : Int) + 1) (by omega) (by omega) (by omega)
  have hvl := worth_ref l hO ((k : Int) + 1) l.length (by omega) (by omega) (Nat.le_refl _)
  have hvlim := valF_lim hA ((k : Int) + 1) l.length (by omega) (by omega) (Nat.le_refl _)
  have hs1 := signed_ref l hO ((k : Int) + 1) l.length 1 (Nat.le_refl _)
  have hs0 := signed_ref l hO ((k : Int) + 1) l.length 0 (Nat.le_refl _)
  have hin := invoice_ref l hO ((k : Int) + 1) (by omega) (by omega)
  have hinb := inv_bounds (l := l) (n := (k : Int) + 1) (k := l.length)
  have hbl := billF_lim hA (n := (k : Int) + 1) (by omega) (by omega)
  have hbv : 0 < invF l ((k : Int) + 1) l.length → Ret Tryz.prog .shared 212 [.sl (l.map ePost),I ((k : Int) + 1),I (invF l ((k : Int) + 1) l.length)] (I (billF l ((k : Int) + 1))) := fun hp => by
   have hb := hinb hp
   have := worth_ref l hO ((k : Int) + 1) (invF l ((k : Int) + 1) l.length - 1).toNat (by omega) (by omega) (by omega)
   rw [show (((invF l ((k : Int) + 1) l.length - 1).toNat : Nat) : Int) + 1 = invF l ((k : Int) + 1) l.length by omega] at this
   rw [billF,if_pos hp]
   exact this
  have hb0 : ¬ 0 < invF l ((k : Int) + 1) l.length → billF l ((k : Int) + 1) = 0 := fun hp => by rw [billF,if_neg hp]
  rw [ofI,accT] at hF
  obtain ⟨v1,v2⟩ := hvlim
  obtain ⟨w1,w2⟩ := hbl
  generalize billF l ((k : Int) + 1) = vb at *
  generalize valF l ((k : Int) + 1) l.length = vv at *
  generalize invF l ((k : Int) + 1) l.length = iv at *
  generalize sgdB l ((k : Int) + 1) l.length 1 = g1 at *
  generalize sgdB l ((k : Int) + 1) l.length 0 = g0 at *
  repeat refine stq rfl ?_
  rw [hw]
  refine qst rfl rfl (q_idxm rfl rfl rfl rfl rfl (by omega) he rfl) ?_
  generalize entL l ((k : Int) + 1) = p at *
  generalize entL l n = q at *
  repeat refine stq rfl ?_
  refine pw_draw 26 [35,36,37,38,39,40,41,42,43,44,45,46,47,48,49,50,51,52,53,54,55,56,57,58,59,60] (by decide +kernel) ?_
  repeat refine stq rfl ?_
  rw [hwn]
  refine qst rfl rfl (q_idxm rfl rfl rfl rfl rfl (by omega) hn rfl) ?_
  repeat refine stq rfl ?_
  have next : F (k + 1) = F k → ∀ st : St,Fit st [(0,.sl (l.map ePost)),(1,I n),(4,.ptr 4 1 0 0),(5,I ((l.length : Int) + 1)),(6,.ptr 6 1 0 0),(7,I (k + 1 + 1))] [(4,1,⟨185,7,[[.str [],I 0,I 0,I 0,I 0,I 0,I 0]],2⟩),(6,1,⟨185,7,[eAcct (F k)],2⟩)] →
    ∃ j,j ≤ l.length ∧ l.length - j < l.length - k ∧ Fit st [(0,.sl (l.map ePost)),(1,I n),(4,.ptr 4 1 0 0),(5,I ((l.length : Int) + 1)),(6,.ptr 6 1 0 0),(7,I (j + 1))] [(4,1,⟨185,7,[[.str [],I 0,I 0,I 0,I 0,I 0,I 0]],2⟩),(6,1,⟨185,7,[eAcct (F j)],2⟩)] := fun hf st hfit =>
   ⟨k + 1,hlt,by omega,by rw [hf];exact hfit⟩
  (first|refine ps_split rfl rfl ?_ ?_|refine pq_split rfl rfl ?_ ?_|refine p3_split rfl rfl ?_ ?_)<;>intro h
  ·have e1 : ¬ p.order = q.order := by simpa using h
   rw [decide_eq_false e1,Bool.false_and,Bool.false_and,if_neg (by simp)] at hF
   repeat refine stq rfl ?_
   exact next hF _ ⟨rfl,rfl,rfl,rfl,rfl,i64_next (by omega) (by omega),rfl,rfl,trivial⟩
  have e1 : p.order = q.order := by simpa using h
  clear h
  rw [decide_eq_true e1,Bool.true_and] at hF
  repeat refine stq rfl ?_
  rw [hwn]
  refine qst rfl rfl (q_idxm rfl rfl rfl rfl rfl (by omega) hn rfl) ?_
  repeat refine stq rfl ?_
  (first|refine ps_split rfl rfl ?_ ?_|refine pq_split rfl rfl ?_ ?_|refine p3_split rfl rfl ?_ ?_)<;>intro h
  ·have e2 : ¬ p.item = q.item := by simpa using h
   rw [decide_eq_false e2,Bool.false_and,if_neg (by simp)] at hF
   repeat refine stq rfl ?_
   exact next hF _ ⟨rfl,rfl,rfl,rfl,rfl,i64_next (by omega) (by omega),rfl,rfl,trivial⟩
  have e2 : p.item = q.item := by simpa using h
  clear h
  rw [decide_eq_true e2,Bool.true_and] at hF
  generalize liveB l ((k : Int) + 1) = lv at *
  repeat refine stq rfl ?_
  refine qst rfl rfl (q_cp rfl hv rfl rfl rfl) ?_
  cases lv with
  |false =>
   rw [if_neg (by simp)] at hF
   repeat refine stq rfl ?_
   exact next hF _ ⟨rfl,rfl,rfl,rfl,rfl,i64_next (by omega) (by omega),rfl,rfl,trivial⟩
  |true =>
  rw [if_pos rfl] at hF
  repeat refine stq rfl ?_
  refine pw_cond rfl (fun h => ?_) (fun h => ?_)
  ·have o2 : p.op = 2 := of_decide_eq_true h
   rw [if_pos o2] at hF
   clear h
   repeat refine stq rfl ?_
   refine qst rfl rfl (q_cp rfl hs1 rfl rfl rfl) ?_
   cases g1 with
   |false =>
    rw [if_neg (by simp)] at hF
    repeat refine stq rfl ?_
    exact next hF _ ⟨rfl,rfl,rfl,rfl,rfl,i64_next (by omega) (by omega),rfl,rfl,trivial⟩
   |true =>
    rw [if_pos rfl] at hF
    repeat refine stq rfl ?_
    refine pw_draw 8 [69,70,71,72,73,74,75,76] (by decide +kernel) ?_
    repeat refine stq rfl ?_
    refine qst rfl rfl (q_cp rfl hvl rfl rfl rfl) ?_
    repeat refine stq rfl ?_
    rw [wrap_i64 (n := (F k).gro + vv) (by omega) (by omega)]
    refine ⟨k + 1,hlt,by omega,rfl,rfl,rfl,rfl,rfl,i64_next (by omega) (by omega),rfl,?_,trivial⟩
    rw [hF];rfl
  have o2 : ¬ p.op = 2 := of_decide_eq_false h
  clear h
  rw [if_neg o2] at hF
  repeat refine stq rfl ?_
  refine pw_cond rfl (fun h => ?_) (fun h => ?_)
  rotate_left
  ·have o3 : ¬ p.op = 3 := of_decide_eq_false h
   rw [if_neg o3] at hF
   repeat refine stq rfl ?_
   exact next hF _ ⟨rfl,rfl,rfl,rfl,rfl,i64_next (by omega) (by omega),rfl,rfl,trivial⟩
  have o3 : p.op = 3 := of_decide_eq_true h
  clear h
  rw [if_pos o3] at hF
  repeat refine stq rfl ?_
  refine pw_draw 8 [79,80,81,82,83,84,85,86] (by decide +kernel) ?_
  repeat refine stq rfl ?_
  refine qst rfl rfl (q_cp rfl hvl rfl rfl rfl) ?_
  repeat refine stq rfl ?_
  rw [wrap_i64 (n := (F k).chg + vv) (by omega) (by omega)]
  refine qst rfl rfl (q_cp rfl hs0 rfl rfl rfl) ?_
  cases g0 with
  |false =>
   rw [if_neg (by simp)] at hF
   repeat refine stq rfl ?_
   refine qst rfl rfl (q_cp rfl hin rfl rfl rfl) ?_
   repeat refine stq rfl ?_
   refine pw_cond rfl (fun h => ?_) (fun h => ?_)
   ·have hp := of_decide_eq_true h
    have hbv := hbv hp
    repeat refine stq rfl ?_
    refine pw_draw 8 [104,105,106,107,108,109,110,111] (by decide +kernel) ?_
    repeat refine stq rfl ?_
    refine qst rfl rfl (q_cp rfl hbv rfl rfl rfl) ?_
    repeat refine stq rfl ?_
    rw [wrap_i64 (n := (F k).bil + vb) (by omega) (by omega)]
    refine ⟨k + 1,hlt,by omega,rfl,rfl,rfl,rfl,rfl,i64_next (by omega) (by omega),rfl,?_,trivial⟩
    rw [hF,Int.add_zero];rfl
   ·have hp := hb0 (of_decide_eq_false h)
    repeat refine stq rfl ?_
    refine ⟨k + 1,hlt,by omega,rfl,rfl,rfl,rfl,rfl,i64_next (by omega) (by omega),rfl,?_,trivial⟩
    rw [hF,hp,Int.add_zero,Int.add_zero];rfl
  |true =>
   rw [if_pos rfl] at hF
   repeat refine stq rfl ?_
   refine pw_draw 8 [91,92,93,94,95,96,97,98] (by decide +kernel) ?_
   repeat refine stq rfl ?_
   refine qst rfl rfl (q_cp rfl hvl rfl rfl rfl) ?_
   repeat refine stq rfl ?_
   rw [wrap_i64 (n := (F k).sig + vv) (by omega) (by omega)]
   refine qst rfl rfl (q_cp rfl hin rfl rfl rfl) ?_
   repeat refine stq rfl ?_
   refine pw_cond rfl (fun h => ?_) (fun h => ?_)
   ·have hp := of_decide_eq_true h
    have hbv := hbv hp
    repeat refine stq rfl ?_
    refine pw_draw 8 [104,105,106,107,108,109,110,111] (by decide +kernel) ?_
    repeat refine stq rfl ?_
    refine qst rfl rfl (q_cp rfl hbv rfl rfl rfl) ?_
    repeat refine stq rfl ?_
    rw [wrap_i64 (n := (F k).bil + vb) (by omega) (by omega)]
    refine ⟨k + 1,hlt,by omega,rfl,rfl,rfl,rfl,rfl,i64_next (by omega) (by omega),rfl,?_,trivial⟩
    rw [hF];rfl
   ·have hp := hb0 (of_decide_eq_false h)
    repeat refine stq rfl ?_
    refine ⟨k + 1,hlt,by omega,rfl,rfl,rfl,rfl,rfl,i64_next (by omega) (by omega),rfl,?_,trivial⟩
    rw [hF,hp,Int.add_zero];rfl
 ·have hz : k = l.length := by have := of_decide_eq_false h;omega
  subst hz
  repeat refine stq rfl ?_
  rw [wrap_i64 (n := (F l.length).chg - (F l.length).est) (by omega) (by omega),wrap_i64 (n := (F l.length).chg - (F l.length).est - (F l.length).gro) (by omega) (by omega),max_zero]
  exact endc rfl rfl rfl rfl (by repeat' constructor) rfl
end Go.Pv


set_option maxHeartbeats 2000000
namespace Go.Pv
attribute [local irreducible] PWP POps PQuiet PSem XThen XBlock RetPost InlPost
open Go.Proofs
def kap (K : Nat → Bool) : Nat → Nat
 |0 => 0
 |k + 1 => if K k = true then kap K k + 1 else kap K k
def renum (K : Nat → Bool) (p : SPost) : SPost := if 0 < p.ref then { p with ref := (kap K p.ref.toNat : Int) } else p
def sub (K : Nat → Bool) (l : List SPost) : Nat → List SPost
 |0 => []
 |k + 1 => if K k = true then sub K l k ++ [renum K (entL l ((k : Int) + 1))] else sub K l k
theorem kap_yes {K : Nat → Bool} {k : Nat} (h : K k = true) : kap K (k + 1) = kap K k + 1 := by rw [kap,if_pos h]
theorem kap_le (K : Nat → Bool) : ∀ k,kap K k ≤ k
 |0 => Nat.le_refl _
 |k + 1 => by
  have := kap_le K k
  rw [kap];split <;> omega
theorem kap_mono (K : Nat → Bool) {i : Nat} : ∀ {j : Nat},i ≤ j → kap K i ≤ kap K j
 |0,h => by rw [show i = 0 by omega];exact Nat.le_refl _
 |j + 1,h => by
  by_cases hj : i = j + 1
  ·rw [hj];exact Nat.le_refl _
  ·have := kap_mono K (i := i) (j := j) (by omega)
   have h2 : kap K j ≤ kap K (j + 1) := by rw [kap];split <;> omega
   omega
theorem kap_lt {K : Nat → Bool} {i j : Nat} (h : i < j) (hk : K i = true) : kap K i < kap K j := by
 have := kap_mono K (i := i + 1) (j := j) (by omega)
 rw [kap_yes hk] at this
 omega
theorem kap_inj {K : Nat → Bool} {i j : Nat} (hi : K i = true) (hj : K j = true) (h : kap K (i + 1) = kap K (j + 1)) : i = j := by
 rw [kap_yes hi,kap_yes hj] at h
 rcases Nat.lt_trichotomy i j with g | g | g
 ·have := kap_lt g hi;omega
 ·exact g
 ·have := kap_lt g hj;omega
theorem sub_len (K : Nat → Bool) (l : List SPost) : ∀ k,(sub K l k).length = kap K k
 |0 => rfl
 |k + 1 => by
  have := sub_len K l k
  rw [sub,kap]
  split
  ·simp [this]
  ·exact this
theorem entL_app {l : List SPost} {n : Int} (q : SPost) (h1 : 1 ≤ n) (h2 : n ≤ l.length) : entL (l ++ [q]) n = entL l n := by
 have e1 := entL_at h1 h2
 have e2 := entL_at (l := l ++ [q]) (n := n) h1 (by simp;omega)
 rw [List.getElem?_append_left (by omega),e1] at e2
 exact (Option.some.inj e2).symm
theorem entL_new (l : List SPost) (q : SPost) : entL (l ++ [q]) ((l.length : Int) + 1) = q := by
 have e2 := entL_at (l := l ++ [q]) (n := (l.length : Int) + 1) (by omega) (by simp)
 rw [show ((l.length : Int) + 1 - 1).toNat = l.length by omega] at e2
 simp at e2
 exact e2.symm
theorem sub_app (K : Nat → Bool) (l : List SPost) (q : SPost) : ∀ k,k ≤ l.length → sub K (l ++ [q]) k = sub K l k
 |0,_ => rfl
 |k + 1,h => by
  rw [sub,sub,sub_app K l q k (by omega),entL_app q (by omega) (by omega)]
theorem sub_at (K : Nat → Bool) (l : List SPost) {k : Nat} (hk : K k = true) : ∀ {n : Nat},k < n → (sub K l n)[kap K k]? = some (renum K (entL l ((k : Int) + 1)))
 |0,h => by omega
 |n + 1,h => by
  by_cases hn : k = n
  ·subst hn
   rw [sub,if_pos hk,← sub_len K l k]
   simp
  ·have ih := sub_at K l hk (n := n) (by omega)
   rw [sub]
   split
   ·rw [List.getElem?_append_left (by rw [sub_len];exact kap_lt (by omega) hk)]
    exact ih
   ·exact ih
theorem sub_from (K : Nat → Bool) (l : List SPost) : ∀ {n j : Nat} {p : SPost},(sub K l n)[j]? = some p → ∃ k,k < n ∧ K k = true ∧ kap K k = j ∧ p = renum K (entL l ((k : Int) + 1))
 |0,j,p,h => by simp [sub] at h
 |n + 1,j,p,h => by
  rw [sub] at h
  split at h
  ·rename_i hk
   rcases snoc_get h with ⟨_,h⟩ | ⟨rfl,rfl⟩
   ·obtain ⟨k,h1,h2⟩ := sub_from K l h
    exact ⟨k,by omega,h2⟩
   ·exact ⟨n,by omega,hk,(sub_len K l n).symm,rfl⟩
  ·obtain ⟨k,h1,h2⟩ := sub_from K l h
   exact ⟨k,by omega,h2⟩
theorem sub_ent (K : Nat → Bool) (l : List SPost) {n k : Nat} (h : k < n) (hk : K k = true) : entL (sub K l n) ((kap K (k + 1) : Nat) : Int) = renum K (entL l ((k : Int) + 1)) := by
 have e1 := sub_at K l hk h
 have hlt := kap_lt h hk
 have e2 := entL_at (l := sub K l n) (n := ((kap K (k + 1) : Nat) : Int)) (by rw [kap_yes hk];omega) (by rw [kap_yes hk,sub_len];omega)
 rw [show (((kap K (k + 1) : Nat) : Int) - 1).toNat = kap K k by rw [kap_yes hk];omega,e1] at e2
 exact (Option.some.inj e2).symm
theorem renum_same (K : Nat → Bool) (p : SPost) : (renum K p).op = p.op ∧ (renum K p).day = p.day ∧ (renum K p).order = p.order ∧ (renum K p).item = p.item ∧ (renum K p).ship = p.ship ∧ (renum K p).who = p.who ∧ (renum K p).amount = p.amount ∧ (renum K p).role = p.role := by
 rw [renum]
 split <;> exact ⟨rfl,rfl,rfl,rfl,rfl,rfl,rfl,rfl⟩
theorem renum_ref (K : Nat → Bool) {p : SPost} (h : 1 ≤ p.ref) : (renum K p).ref = (kap K p.ref.toNat : Int) := by rw [renum,if_pos (by omega)]
theorem renum_zero (K : Nat → Bool) {p : SPost} (h : p.ref = 0) : renum K p = p := by rw [renum,if_neg (by omega)]
def kO (K : Nat → Bool) (n : Int) : Int := if 1 ≤ n ∧ K (n - 1).toNat = true then (kap K n.toNat : Int) else 0
theorem kO_yes {K : Nat → Bool} {k : Nat} (h : K k = true) : kO K ((k : Int) + 1) = (kap K (k + 1) : Nat) := by
 rw [kO,if_pos ⟨by omega,by rw [show ((k : Int) + 1 - 1).toNat = k by omega];exact h⟩,show ((k : Int) + 1).toNat = k + 1 by omega]
theorem kO_no {K : Nat → Bool} {k : Nat} (h : ¬ K k = true) : kO K ((k : Int) + 1) = 0 := by
 rw [kO,if_neg]
 rintro ⟨_,h2⟩
 rw [show ((k : Int) + 1 - 1).toNat = k by omega] at h2
 exact h h2
theorem kO_zero {K : Nat → Bool} {n : Int} (h : n ≤ 0) : kO K n = 0 := by rw [kO,if_neg (by omega)]
theorem pred_nat {n : Int} (h : 1 ≤ n) : ∃ k : Nat,n = (k : Int) + 1 ∧ (n - 1).toNat = k := ⟨(n - 1).toNat,by omega,rfl⟩
theorem kO_nonneg (K : Nat → Bool) (n : Int) : 0 ≤ kO K n := by rw [kO];split <;> omega
theorem kO_snoc {K : Nat → Bool} {n : Nat} {a s : Int} {b : Bool} (ha : 0 ≤ a) (hb : b = true → a = 0) (hs : s = kO K a) : (if K n = true then (if 1 ≤ s then s else if b = true then (kap K n : Int) + 1 else 0) else s) = kO K (if 1 ≤ a then a else if b = true then (n : Int) + 1 else 0) := by
 by_cases h1 : 1 ≤ a
 ·have hbf : ¬ b = true := fun h => by have := hb h;omega
  rw [if_pos h1,if_neg hbf]
  have := kO_nonneg K a
  split
  ·split <;> omega
  ·exact hs
 ·have h0 : s = 0 := by rw [hs,kO_zero (by omega)]
  rw [if_neg h1]
  by_cases hbt : b = true
  ·rw [if_pos hbt,if_pos hbt]
   by_cases hk : K n = true
   ·rw [if_pos hk,if_neg (by omega),kO_yes hk,kap_yes hk];omega
   ·rw [if_neg hk,kO_no hk,h0]
  ·rw [if_neg hbt,if_neg hbt,kO_zero (by omega)]
   split
   ·split <;> omega
   ·exact h0
structure SubOk (l : List SPost) (K : Nat → Bool) : Prop where
 sup : ∀ k : Nat,k < l.length → K k = true → 1 ≤ supNo l (entL l ((k : Int) + 1)) → K (supNo l (entL l ((k : Int) + 1)) - 1).toNat = true
 wdr : ∀ k : Nat,k < l.length → K k = true → (entL l ((k : Int) + 1)).op = 8 → K ((entL l ((k : Int) + 1)).ref - 1).toNat = true
 wds : ∀ k : Nat,k < l.length → (entL l ((k : Int) + 1)).op = 8 → K ((entL l ((k : Int) + 1)).ref - 1).toNat = true → K k = true
theorem ent_get {l : List SPost} {k : Nat} (h : k < l.length) : l[k]? = some (entL l ((k : Int) + 1)) := by
 have := entL_at (l := l) (n := (k : Int) + 1) (by omega) (by omega)
 rwa [show ((k : Int) + 1 - 1).toNat = k by omega] at this
theorem SubOk.pre {l : List SPost} {q : SPost} {K : Nat → Bool} (h : SubOk (l ++ [q]) K) (hO : Ok l) : SubOk l K := by
 have e : ∀ k : Nat,k < l.length → entL (l ++ [q]) ((k : Int) + 1) = entL l ((k : Int) + 1) := fun k hk => entL_app q (by omega) (by omega)
 refine ⟨fun k hk h1 h2 => ?_,fun k hk h1 h2 => ?_,fun k hk h1 h2 => ?_⟩
 ·have := h.sup k (by simp;omega) h1
  rw [e k hk,hO.sup_snoc q (ent_get hk)] at this
  exact this h2
 ·have := h.wdr k (by simp;omega) h1
  rw [e k hk] at this
  exact this h2
 ·have := h.wds k (by simp;omega)
  rw [e k hk] at this
  exact this h1 h2
structure SubAt (l : List SPost) (K : Nat → Bool) : Prop where
 acc : Acc (sub K l l.length)
 ord : ∀ nm,ordNo (sub K l l.length) nm = kO K (ordNo l nm)
 itm : ∀ o nm,itmNo (sub K l l.length) o nm = kO K (itmNo l o nm)
theorem kO_ref {K : Nat → Bool} {n : Int} (h : 1 ≤ n) (hk : K (n - 1).toNat = true) : kO K n = (kap K n.toNat : Int) := by rw [kO,if_pos ⟨h,hk⟩]
theorem SubAt.sup {l : List SPost} {K : Nat → Bool} (h : SubAt l K) {p : SPost} (hr : p.op = 4 ∨ p.op = 5 → 1 ≤ p.ref ∧ K (p.ref - 1).toNat = true) : supNo (sub K l l.length) (renum K p) = kO K (supNo l p) := by
 obtain ⟨e1,_,e3,e4,_⟩ := renum_same K p
 simp only [supNo]
 rw [e1,e3,e4,h.ord,h.itm]
 split
 ·rfl
 ·split
  ·rfl
  ·split
   ·rename_i h4
    obtain ⟨r1,r2⟩ := hr h4
    rw [renum_ref K r1,kO_ref r1 r2]
   ·rw [kO_zero (by omega)]
theorem sub_gone {l : List SPost} {K : Nat → Bool} (hO : Ok l) (hK : SubOk l K) {j : Nat} (hk : K j = true) : goneB (sub K l l.length) ((kap K (j + 1) : Nat) : Int) = goneB l ((j : Int) + 1) := by
 rw [Bool.eq_iff_iff]
 simp only [goneB,List.any_eq_true,Bool.and_eq_true,decide_eq_true_eq]
 constructor
 ·rintro ⟨p,hp,ho,hr⟩
  obtain ⟨i,hi,rfl⟩ := List.getElem_of_mem hp
  obtain ⟨k,k1,k2,k3,k4⟩ := sub_from K l (List.getElem?_eq_getElem hi)
  have hget := ent_get k1
  generalize (sub K l l.length)[i] = p at *
  subst k4
  rw [(renum_same K _).1] at ho
  have hpos := (hO.pos _ _ hget).2.2.1 (by omega)
  rw [renum_ref K hpos.1] at hr
  have hw := hK.wdr k k1 k2 ho
  obtain ⟨m,e1,e2⟩ := pred_nat hpos.1
  rw [e2] at hw
  rw [show (entL l ((k : Int) + 1)).ref.toNat = m + 1 by omega] at hr
  have := kap_inj hw hk (by omega)
  exact ⟨_,List.mem_of_getElem? hget,ho,by omega⟩
 ·rintro ⟨p,hp,ho,hr⟩
  obtain ⟨k,hk1,rfl⟩ := List.getElem_of_mem hp
  have he : l[k] = entL l ((k : Int) + 1) := by have := ent_get hk1;rw [List.getElem?_eq_getElem hk1] at this;exact Option.some.inj this
  rw [he] at ho hr
  have hkk := hK.wds k hk1 ho (by rw [hr,show ((j : Int) + 1 - 1).toNat = j by omega];exact hk)
  refine ⟨_,List.mem_of_getElem? (sub_at K l hkk hk1),?_,?_⟩
  ·rw [(renum_same K _).1];exact ho
  ·rw [renum_ref K (by omega),hr,show ((j : Int) + 1).toNat = j + 1 by omega]
theorem SubOk.ref {l : List SPost} {K : Nat → Bool} (hO : Ok l) (hK : SubOk l K) {k : Nat} (hk : k < l.length) (hkk : K k = true) : (entL l ((k : Int) + 1)).op = 4 ∨ (entL l ((k : Int) + 1)).op = 5 ∨ (entL l ((k : Int) + 1)).op = 8 → 1 ≤ (entL l ((k : Int) + 1)).ref ∧ (entL l ((k : Int) + 1)).ref ≤ k ∧ K ((entL l ((k : Int) + 1)).ref - 1).toNat = true := fun ho => by
 have hpos := (hO.pos _ _ (ent_get hk)).2.2.1 ho
 refine ⟨hpos.1,hpos.2,?_⟩
 by_cases h8 : (entL l ((k : Int) + 1)).op = 8
 ·exact hK.wdr k hk hkk h8
 ·have hs : supNo l (entL l ((k : Int) + 1)) = (entL l ((k : Int) + 1)).ref := by rw [supNo,if_neg (by omega),if_neg (by omega),if_pos (by omega)]
  have := hK.sup k hk hkk (by rw [hs];exact hpos.1)
  rwa [hs] at this
theorem SubAt.live {l : List SPost} {K : Nat → Bool} (hO : Ok l) (hK : SubOk l K) (h : SubAt l K) : ∀ (b : Nat) {j : Nat},j < b → j < l.length → K j = true → liveB (sub K l l.length) ((kap K (j + 1) : Nat) : Int) = liveB l ((j : Int) + 1)
 |0,j,hb,_,_ => by omega
 |b + 1,j,hb,hj,hk => by
  have hW := h.acc.ok.wf
  rw [liveB_pos hW (by rw [kap_yes hk];omega),liveB_pos hO.wf (by omega),sub_gone hO hK hk,sub_ent K l hj hk,h.sup fun ho => by have := hK.ref hO hj hk (by omega);exact ⟨this.1,this.2.2⟩]
  congr 1
  have hlt := hO.wf.lt (n := (j : Int) + 1) (by omega)
  by_cases hs : 1 ≤ supNo l (entL l ((j : Int) + 1))
  ·have hks := hK.sup j hj hk hs
   obtain ⟨m,e1,e2⟩ := pred_nat hs
   rw [e2] at hks
   rw [e1,kO_yes hks]
   exact SubAt.live hO hK h b (by omega) (by omega) hks
  ·rw [kO_zero (by omega),liveB_zero (by omega),liveB_zero (by omega)]
end Go.Pv


set_option maxHeartbeats 2000000
namespace Go.Pv
attribute [local irreducible] PWP POps PQuiet PSem XThen XBlock RetPost InlPost
open Go.Proofs
theorem check_ref {q : SPost} {r : Int} (hc : checkE q = 0) (h1 : 1 ≤ r) (h2 : r ≤ 400) : checkE { q with ref := r } = 0 := by
 have h := checkE_op hc
 have key : fstE (fdsOf q.op) (fun _ f => f.err { q with ref := r }) = 0 := by
  refine fstE_none fun j f hf => ?_
  have he := fstE_zero h.2.2 j f hf
  cases f with
  |r lo hi =>
   have hm := List.mem_of_getElem? hf
   have hlh : lo = 1 ∧ hi = 400 := by
    rcases op_cases h.1 with e | e | e | e | e | e | e | e | e <;> rw [e] at hm <;> simp [fdsOf] at hm <;> exact hm
   obtain ⟨rfl,rfl⟩ := hlh
   show (if inside r 1 400 = true then (0 : Int) else 2) = 0
   rw [if_pos (by simp [inside];omega)]
  |_ => exact he
 rw [checkE]
 exact (if_pos (show inside q.op 0 8 = true ∧ inside q.day 0 10000 = true from ⟨h.1,h.2.1⟩)).trans key
theorem clean_renum {q : SPost} {r : Int} (ho : q.op = 4 ∨ q.op = 5 ∨ q.op = 8) (h : cleanP q = q) : cleanP { q with ref := r } = { q with ref := r } := by
 obtain ⟨op,day,o,i,s,w,a,r',ro⟩ := q
 simp only at ho
 rcases ho with rfl | rfl | rfl
 ·have h' : (⟨4,day,[],[],[],w,0,r',ro⟩ : SPost) = ⟨4,day,o,i,s,w,a,r',ro⟩ := h
  simp only [SPost.mk.injEq,true_and,and_true] at h'
  obtain ⟨rfl,rfl,rfl,rfl⟩ := h'
  rfl
 ·have h' : (⟨5,day,[],[],[],[],a,r',0⟩ : SPost) = ⟨5,day,o,i,s,w,a,r',ro⟩ := h
  simp only [SPost.mk.injEq,true_and,and_true] at h'
  obtain ⟨rfl,rfl,rfl,rfl,rfl⟩ := h'
  rfl
 ·have h' : (⟨8,day,[],[],[],[],0,r',0⟩ : SPost) = ⟨8,day,o,i,s,w,a,r',ro⟩ := h
  simp only [SPost.mk.injEq,true_and,and_true] at h'
  obtain ⟨rfl,rfl,rfl,rfl,rfl,rfl⟩ := h'
  rfl
theorem Acc.days {l : List SPost} (h : Acc l) : ∀ i j : Nat,i ≤ j → j < l.length → (entL l ((i : Int) + 1)).day ≤ (entL l ((j : Int) + 1)).day := by
 induction h with
 |nil => intro i j _ h;simp at h
 |snoc hA hr ih =>
  rename_i l p
  intro i j hij hj
  by_cases hjl : j < l.length
  ·rw [entL_app _ (by omega) (by omega),entL_app _ (by omega) (by omega)]
   exact ih i j hij hjl
  ·have hjl : j = l.length := by simp at hj;omega
   subst hjl
   rw [entL_new,(clean_op p).2]
   by_cases hi : i = l.length
   ·subst hi;rw [entL_new,(clean_op p).2];exact Int.le_refl _
   ·rw [entL_app _ (by omega) (by omega)]
    have h1 := ih i (l.length - 1) (by omega) (by omega)
    rw [show (((l.length - 1 : Nat) : Int)) + 1 = l.length by omega] at h1
    have h2 := (refusalR_zero hr).2.2.1
    have : ¬ p.day < (entL l l.length).day := fun hh => h2 ⟨by omega,hh⟩
    omega
section
variable {l : List SPost} {K : Nat → Bool}
theorem stand_sub (hO : Ok l) (hK : SubOk l K) (S : SubAt l K) {s : Int} (hs : standE l s = 0) (h1 : 1 ≤ s) (h2 : s ≤ l.length) (hk : K (s - 1).toNat = true) : standE (sub K l l.length) (kO K s) = 0 := by
 obtain ⟨m,rfl,e2⟩ := pred_nat h1
 rw [e2] at hk
 rw [kO_yes hk,standE,if_neg (by rw [kap_yes hk];omega),if_pos]
 rw [S.live hO hK (m + 1) (by omega) (by omega) hk]
 exact (standE_zero hs).2
theorem aim_sub (hO : Ok l) (hK : SubOk l K) (S : SubAt l K) {n : Int} {ks : List Int} (hn : aimE l n ks = 0) (hk : K (n - 1).toNat = true) : aimE (sub K l l.length) (kap K n.toNat : Int) ks = 0 := by
 have hb := aimE_zero hn
 rw [aimE,if_neg (by simp [inside];omega)] at hn
 split at hn
 ·omega
 ·rename_i hks
  obtain ⟨m,rfl,e2⟩ := pred_nat hb.1
  have hs := stand_sub hO hK S hn (by omega) (by omega) hk
  rw [e2] at hk
  rw [kO_yes hk] at hs
  rw [show ((m : Int) + 1).toNat = m + 1 by omega]
  have h3 := kap_mono K (i := m + 1) (j := l.length) (by omega)
  have h4 := kap_yes hk
  rw [aimE,if_neg (by simp [inside,sub_len];omega),sub_ent K l (by omega) hk,(renum_same K _).1,if_neg hks,hs]
theorem refusal_sub (hA : Acc l) (hK : SubOk l K) (S : SubAt l K) {q : SPost} (hr : refusalR l q = 0) (hs : 1 ≤ supNo l q → K (supNo l q - 1).toNat = true) (hrf : q.op = 4 ∨ q.op = 5 ∨ q.op = 8 → 1 ≤ q.ref ∧ K (q.ref - 1).toNat = true) (hr0 : ¬ (q.op = 4 ∨ q.op = 5 ∨ q.op = 8) → q.ref = 0) :
  refusalR (sub K l l.length) (renum K q) = 0 := by
 have hO := hA.ok
 have hO' := S.acc.ok
 obtain ⟨c1,c2,c3,c4⟩ := refusalR_zero hr
 obtain ⟨r0,r1,r2,r3,r4⟩ := refE_zero c4
 obtain ⟨e1,e2,e3,e4,e5,e6,e7,e8⟩ := renum_same K q
 have hop := op_cases (checkE_op c1).1
 have hsu := S.sup (p := q) fun h => hrf (by omega)
 have hob := ordNo_le l q.order
 have hib := itmNo_le l q.order q.item
 have hc' : checkE (renum K q) = 0 := by
  by_cases h : q.op = 4 ∨ q.op = 5 ∨ q.op = 8
  ·obtain ⟨g1,g2⟩ := hrf h
   obtain ⟨m,f1,f2⟩ := pred_nat g1
   rw [f2] at g2
   have := kap_yes g2
   have := kap_le K q.ref.toNat
   have := checkE_ref c1 h
   rw [renum,if_pos (by omega)]
   refine check_ref c1 ?_ (by omega)
   rw [show q.ref.toNat = m + 1 by omega];omega
  ·rw [renum_zero K (hr0 h)];exact c1
 have hlen := kap_le K l.length
 have hdays : ¬ (0 < (sub K l l.length).length ∧ (renum K q).day < (entL (sub K l l.length) (sub K l l.length).length).day) := by
  rintro ⟨g1,g2⟩
  have hg := entL_at (l := sub K l l.length) (n := ((sub K l l.length).length : Int)) (by omega) (by omega)
  obtain ⟨k,k1,k2,k3,k4⟩ := sub_from K l hg
  rw [k4,e2,(renum_same K _).2.1] at g2
  have := hA.days k (l.length - 1) (by omega) (by omega)
  rw [show (((l.length - 1 : Nat) : Int)) + 1 = l.length by omega] at this
  exact c3 ⟨by omega,by omega⟩
 rw [refusalR,if_pos hc',if_neg (by rw [sub_len];omega),if_neg hdays]
 have rd := c4
 rw [refE] at rd
 rw [refE,e1,e3,e4,e6,e7]
 by_cases h0 : q.op = 0
 ·rw [if_pos h0,S.ord,r0 h0,kO_zero (by omega),if_neg (by omega)]
 rw [if_neg h0] at rd ⊢
 by_cases h1 : q.op = 1
 ·rw [if_pos h1] at rd ⊢
  have hst : standE l (ordNo l q.order) = 0 := by
   split at rd
   ·assumption
   ·exact rd
  have hsn : supNo l q = ordNo l q.order := by rw [supNo,if_pos (by omega)]
  have g1 := (r1 (by omega)).1
  have := stand_sub hO hK S hst g1 (by omega) (by rw [← hsn];exact hs (by omega))
  rw [S.ord,S.itm,if_pos this,r2 h1,kO_zero (by omega),if_neg (by omega)]
 rw [if_neg h1] at rd ⊢
 have aim : ∀ ks,aimE l q.ref ks = 0 → (q.op = 4 ∨ q.op = 5 ∨ q.op = 8) → aimE (sub K l l.length) (renum K q).ref ks = 0 ∧ (entL (sub K l l.length) (renum K q).ref).op = (entL l q.ref).op ∧ (entL (sub K l l.length) (renum K q).ref).who = (entL l q.ref).who := fun ks ha ho => by
  obtain ⟨g1,g2⟩ := hrf ho
  have hz := aimE_zero ha
  have := aim_sub hO hK S ha g2
  rw [renum_ref K g1]
  refine ⟨this,?_⟩
  obtain ⟨m,f1,f2⟩ := pred_nat g1
  rw [f2] at g2
  rw [show q.ref.toNat = m + 1 by omega,sub_ent K l (by omega) g2,f1]
  have := renum_same K (entL l ((m : Int) + 1))
  exact ⟨this.1,this.2.2.2.2.2.1⟩
 by_cases h4 : q.op = 4
 ·rw [if_pos h4] at rd ⊢
  have ha : aimE l q.ref [2,3] = 0 := by
   split at rd
   ·assumption
   ·exact rd
  rw [if_pos ha] at rd
  obtain ⟨a1,a2,a3⟩ := aim _ ha (by omega)
  rw [if_pos a1,a2,a3]
  exact rd
 rw [if_neg h4] at rd ⊢
 by_cases h5 : q.op = 5
 ·rw [if_pos h5] at rd ⊢
  have ha : aimE l q.ref [1,2,3] = 0 := by
   split at rd
   ·assumption
   ·exact rd
  rw [if_pos ha] at rd
  obtain ⟨a1,a2,a3⟩ := aim _ ha (by omega)
  rw [if_pos a1,a2]
  exact rd
 rw [if_neg h5] at rd ⊢
 by_cases h8 : q.op = 8
 ·rw [if_pos h8] at rd ⊢
  exact (aim _ rd (by omega)).1
 rw [if_neg h8] at rd ⊢
 rw [hsu]
 have hb : 1 ≤ supNo l q ∧ supNo l q ≤ l.length := by
  by_cases h' : q.op = 1 ∨ q.op = 6 ∨ q.op = 7
  ·rw [supNo,if_pos h'];exact ⟨(r1 h').1,hob.2⟩
  ·rw [supNo,if_neg h',if_pos (by omega)];exact ⟨(r3 (by omega)).1,hib.2⟩
 exact stand_sub hO hK S rd hb.1 hb.2 (hs hb.1)
end
theorem app_no {a n : Int} {b : Bool} (hb : -1 ≤ a) : (if 0 ≤ a then a else if b = true then n else -1) + 1 = if 1 ≤ a + 1 then a + 1 else if b = true then n + 1 else 0 := by
 by_cases h : 0 ≤ a
 ·rw [if_pos h,if_pos (show 1 ≤ a + 1 by omega)]
 ·rw [if_neg h,if_neg (show ¬ 1 ≤ a + 1 by omega)]
  split <;> omega
theorem ordNo_app (l : List SPost) (q : SPost) (nm : Str) : ordNo (l ++ [q]) nm = if 1 ≤ ordNo l nm then ordNo l nm else if (decide (q.op = 0) && decide (q.order = nm)) = true then (l.length : Int) + 1 else 0 := by
 have hb := idx_bounds l fun p => decide (p.op = 0) && decide (p.order = nm)
 simp only [ordNo]
 rw [idx_append]
 exact app_no hb.1
theorem itmNo_app (l : List SPost) (q : SPost) (o nm : Str) : itmNo (l ++ [q]) o nm = if 1 ≤ itmNo l o nm then itmNo l o nm else if (decide (q.op = 1) && decide (q.order = o) && decide (q.item = nm)) = true then (l.length : Int) + 1 else 0 := by
 have hb := idx_bounds l fun p => decide (p.op = 1) && decide (p.order = o) && decide (p.item = nm)
 simp only [itmNo]
 rw [idx_append]
 exact app_no hb.1
theorem sup_new {l : List SPost} {q : SPost} (hr : refE l q = 0) : supNo (l ++ [q]) q = supNo l q := by
 obtain ⟨r0,r1,r2,r3,r4⟩ := refE_zero hr
 simp only [supNo]
 split
 ·rename_i h;exact ordNo_snoc q (r1 h).1
 ·split
  ·rename_i h;exact itmNo_snoc q (r3 h).1
  ·rfl
theorem sub_law {l : List SPost} (h : Acc l) {K : Nat → Bool} : SubOk l K → SubAt l K := by
 induction h with
 |nil => intro _;exact ⟨Acc.nil,fun nm => (kO_zero (Int.le_refl 0)).symm,fun o nm => (kO_zero (Int.le_refl 0)).symm⟩
 |snoc hA hr ih =>
  rename_i l p
  intro hK
  have hO := hA.ok
  have hO2 := (hA.snoc hr).ok
  have S := ih (hK.pre hO)
  have hrq := refusal_again hr
  have hcq := (clean_again (checkE_op (refusalR_zero hr).1).1).1
  generalize cleanP p = q at *
  obtain ⟨c1,c2,c3,c4⟩ := refusalR_zero hrq
  obtain ⟨r0,r1,r2,r3,r4⟩ := refE_zero c4
  have hK' := hK.pre hO
  have e : sub K (l ++ [q]) (l ++ [q]).length = if K l.length = true then sub K l l.length ++ [renum K q] else sub K l l.length := by
   rw [show (l ++ [q]).length = l.length + 1 by simp,sub,sub_app K l q _ (Nat.le_refl _),entL_new]
  obtain ⟨e1,e2,e3,e4,e5,e6,e7,e8⟩ := renum_same K q
  refine ⟨?_,fun nm => ?_,fun o nm => ?_⟩ <;> rw [e]
  ·split
   ·rename_i hk
    have hrf := hK.ref hO2 (k := l.length) (by simp) hk
    have hsq := hK.sup l.length (by simp) hk
    rw [entL_new] at hrf hsq
    rw [sup_new c4] at hsq
    have hz := (hO2.pos l.length q (by simp)).2.2.2
    have := S.acc.snoc (refusal_sub hA hK' S hrq hsq (fun ho => ⟨(hrf ho).1,(hrf ho).2.2⟩) hz)
    have hcl : cleanP (renum K q) = renum K q := by
     by_cases ho : q.op = 4 ∨ q.op = 5 ∨ q.op = 8
     ·rw [renum,if_pos (by have := (hrf ho).1;omega)]
      exact clean_renum ho hcq
     ·rw [renum_zero K (hz ho)];exact hcq
    rw [hcl] at this
    exact this
   ·exact S.acc
  ·rw [ordNo_app]
   rw [← kO_snoc (n := l.length) (s := ordNo (sub K l l.length) nm) (ordNo_le l nm).1 (fun hb => by
    simp only [Bool.and_eq_true,decide_eq_true_eq] at hb
    rw [← hb.2];exact r0 hb.1) (S.ord nm)]
   split
   ·rw [ordNo_app,e1,e3,sub_len]
   ·rfl
  ·rw [itmNo_app]
   rw [← kO_snoc (n := l.length) (s := itmNo (sub K l l.length) o nm) (itmNo_le l o nm).1 (fun hb => by
    simp only [Bool.and_eq_true,decide_eq_true_eq] at hb
    rw [← hb.1.2,← hb.2];exact r2 hb.1.1) (S.itm o nm)]
   split
   ·rw [itmNo_app,e1,e3,e4,sub_len]
   ·rfl
end Go.Pv


set_option maxHeartbeats 2000000
namespace Go.Pv
attribute [local irreducible] PWP POps PQuiet PSem XThen XBlock RetPost InlPost
open Go.Proofs
def restK (l : List SPost) (k : Nat) : Bool := liveB l ((k : Int) + 1) && !decide ((entL l ((k : Int) + 1)).op = 8)
def restL (l : List SPost) : List SPost := sub (restK l) l l.length
theorem restK_iff {l : List SPost} {k : Nat} : restK l k = true ↔ liveB l ((k : Int) + 1) = true ∧ (entL l ((k : Int) + 1)).op ≠ 8 := by simp [restK]
theorem aim_kind {l : List SPost} {n : Int} {ks : List Int} (h : aimE l n ks = 0) : ks.any (· == (entL l n).op) = true := by
 have hb := aimE_zero h
 rw [aimE,if_neg (by simp [inside];omega)] at h
 split at h
 ·omega
 ·rename_i hk;simpa using hk
def Kinds (l : List SPost) (p : SPost) : Prop := (p.op = 4 → (entL l p.ref).op = 2 ∨ (entL l p.ref).op = 3) ∧ (p.op = 5 → ((entL l p.ref).op = 1 ∨ (entL l p.ref).op = 2 ∨ (entL l p.ref).op = 3) ∧ ((entL l p.ref).op ≠ 2 → 0 ≤ p.amount)) ∧ (p.op = 8 → (entL l p.ref).op ≠ 8)
theorem kinds_of {l : List SPost} {q : SPost} (c4 : refE l q = 0) : Kinds l q := by
 rw [refE] at c4
 refine ⟨fun h => ?_,fun h => ?_,fun h => ?_⟩
 ·rw [if_neg (by omega),if_neg (by omega),if_pos h] at c4
  have ha : aimE l q.ref [2,3] = 0 := by
   split at c4
   ·assumption
   ·exact c4
  have := aim_kind ha
  simp at this;omega
 ·rw [if_neg (by omega),if_neg (by omega),if_neg (by omega),if_pos h] at c4
  have ha : aimE l q.ref [1,2,3] = 0 := by
   split at c4
   ·assumption
   ·exact c4
  rw [if_pos ha] at c4
  have := aim_kind ha
  simp at this
  refine ⟨by omega,fun h2 => ?_⟩
  split at c4
  ·omega
  ·rename_i hn
   rcases Int.lt_or_le q.amount 0 with g | g
   ·exact absurd ⟨h2,g⟩ hn
   ·exact g
 ·rw [if_neg (by omega),if_neg (by omega),if_neg (by omega),if_neg (by omega),if_pos h] at c4
  have := aim_kind c4
  simp at this;omega
theorem Acc.kinds {l : List SPost} (h : Acc l) : ∀ k : Nat,k < l.length → Kinds l (entL l ((k : Int) + 1)) := by
 induction h with
 |nil => intro k h;simp at h
 |snoc hA hr ih =>
  rename_i l p
  have hO2 := (hA.snoc hr).ok
  have hrq := refusal_again hr
  generalize cleanP p = q at *
  intro k hk
  have key : ∀ x : SPost,(x.op = 4 ∨ x.op = 5 ∨ x.op = 8 → 1 ≤ x.ref ∧ x.ref ≤ l.length) → Kinds l x → Kinds (l ++ [q]) x := fun x hx ⟨a,b,c⟩ =>
   ⟨fun h => by have := hx (by omega);rw [entL_app q this.1 this.2];exact a h,fun h => by have := hx (by omega);rw [entL_app q this.1 this.2];exact b h,fun h => by have := hx (by omega);rw [entL_app q this.1 this.2];exact c h⟩
  by_cases hkl : k < l.length
  ·rw [entL_app q (by omega) (by omega)]
   refine key _ (fun ho => ?_) (ih k hkl)
   have := (hA.ok.pos _ _ (ent_get hkl)).2.2.1 ho
   omega
  ·have hkl : k = l.length := by simp at hk;omega
   subst hkl
   rw [entL_new]
   have c4 := (refusalR_zero hrq).2.2.2
   refine key _ (fun ho => ?_) (kinds_of c4)
   have := (refE_zero c4).2.2.2.2 ho
   omega
theorem ord_op {l : List SPost} {nm : Str} (h : 1 ≤ ordNo l nm) : (entL l (ordNo l nm)).op = 0 ∧ (entL l (ordNo l nm)).order = nm := by
 have hb := ordNo_le l nm
 obtain ⟨x,hx,hxp⟩ := idx_lt (l := l) (p := fun p => decide (p.op = 0) && decide (p.order = nm)) (by rw [ordNo] at h;omega)
 have hxe : entL l (ordNo l nm) = x := by
  have := entL_at (l := l) (n := ordNo l nm) (by omega) (by omega)
  rw [show (ordNo l nm - 1).toNat = (idx l fun p => decide (p.op = 0) && decide (p.order = nm)).toNat by rw [ordNo];omega,hx] at this
  exact (Option.some.inj this).symm
 simp only [Bool.and_eq_true,decide_eq_true_eq] at hxp
 rw [hxe];exact hxp
theorem itm_op {l : List SPost} {o nm : Str} (h : 1 ≤ itmNo l o nm) : (entL l (itmNo l o nm)).op = 1 := by
 have hb := itmNo_le l o nm
 obtain ⟨x,hx,hxp⟩ := idx_lt (l := l) (p := fun p => decide (p.op = 1) && decide (p.order = o) && decide (p.item = nm)) (by rw [itmNo] at h;omega)
 have hxe : entL l (itmNo l o nm) = x := by
  have := entL_at (l := l) (n := itmNo l o nm) (by omega) (by omega)
  rw [show (itmNo l o nm - 1).toNat = (idx l fun p => decide (p.op = 1) && decide (p.order = o) && decide (p.item = nm)).toNat by rw [itmNo];omega,hx] at this
  exact (Option.some.inj this).symm
 simp only [Bool.and_eq_true,decide_eq_true_eq] at hxp
 rw [hxe];exact hxp.1.1
theorem sup_op {l : List SPost} {p : SPost} (hk : Kinds l p) (h : 1 ≤ supNo l p) : (entL l (supNo l p)).op ≠ 8 := by
 rw [supNo] at h ⊢
 split at h
 ·rename_i h1;rw [if_pos h1,(ord_op h).1];omega
 ·rename_i h1
  rw [if_neg h1]
  split at h
  ·rename_i h2;rw [if_pos h2,itm_op h];omega
  ·rename_i h2
   rw [if_neg h2]
   split at h
   ·rename_i h3
    rw [if_pos h3]
    rcases h3 with h3 | h3
    ·have := hk.1 h3;omega
    ·have := (hk.2.1 h3).1;omega
   ·omega
theorem gone_mem {l : List SPost} {k : Nat} (hk : k < l.length) (h8 : (entL l ((k : Int) + 1)).op = 8) : goneB l (entL l ((k : Int) + 1)).ref = true := by
 rw [goneB,List.any_eq_true]
 exact ⟨_,List.mem_of_getElem? (ent_get hk),by simp [h8]⟩
theorem rest_ok {l : List SPost} (hA : Acc l) : SubOk l (restK l) := by
 have hO := hA.ok
 refine ⟨fun k hk hkk hs => ?_,fun k hk hkk h8 => ?_,fun k hk h8 hr => ?_⟩
 ·obtain ⟨g1,g2⟩ := restK_iff.1 hkk
  have h8 := sup_op (hA.kinds k hk) hs
  rw [liveB_pos hO.wf (by omega)] at g1
  have g1 := (Bool.and_eq_true_iff.1 g1).2
  obtain ⟨m,e1,e2⟩ := pred_nat hs
  rw [e2]
  rw [e1] at g1 h8
  exact restK_iff.2 ⟨g1,h8⟩
 ·exact absurd h8 (restK_iff.1 hkk).2
 ·exfalso
  have hpos := (hO.pos _ _ (ent_get hk)).2.2.1 (by omega)
  have hg := gone_mem hk h8
  obtain ⟨m,e1,e2⟩ := pred_nat hpos.1
  rw [e2] at hr
  have := (restK_iff.1 hr).1
  rw [← e1,liveB_pos hO.wf hpos.1,hg] at this
  cases this
theorem rest_at {l : List SPost} (hA : Acc l) : SubAt l (restK l) := sub_law hA (rest_ok hA)
theorem rest_acc {l : List SPost} (hA : Acc l) : Acc (restL l) := (rest_at hA).acc
theorem Ok.refs {l : List SPost} (hO : Ok l) : ∀ k : Nat,k < l.length → 0 ≤ (entL l ((k : Int) + 1)).ref ∧ (entL l ((k : Int) + 1)).ref ≤ k := fun k hk => by
 have := (hO.pos _ _ (ent_get hk)).2.2
 by_cases ho : (entL l ((k : Int) + 1)).op = 4 ∨ (entL l ((k : Int) + 1)).op = 5 ∨ (entL l ((k : Int) + 1)).op = 8
 ·have := this.1 ho;omega
 ·have := this.2 ho;omega
end Go.Pv


set_option maxHeartbeats 2000000
namespace Go.Pv
attribute [local irreducible] PWP POps PQuiet PSem XThen XBlock RetPost InlPost
open Go.Proofs
section
variable {l : List SPost}
end
end Go.Pv


set_option maxHeartbeats 2000000
namespace Go.Pv
attribute [local irreducible] PWP POps PQuiet PSem XThen XBlock RetPost InlPost
open Go.Proofs
theorem accountsX_ret (l : List SPost) (hA : Acc l) (o : Str) : Ret Tryz.prog .shared 47 [.dref (eBook l) 0,.str o] (if standE l (ordNo l o) = 0 then .tup [.sl ((accP l o).map eAcct),I 0] else .tup [.nil,I (standE l (ordNo l o))]) := by
 have h44 := ordered_ret l hA.ok o
 have h45 := accounts_ret l hA o
 by_cases hz : standE l (ordNo l o) = 0
 ·rw [if_pos hz]
  rw [hz] at h44
  refine Ret.of_pwp layOk mixed Go.Proofs.Tryz.func47 rfl (by decide) rfl rfl ?_
  repeat refine stq rfl ?_
  refine qst rfl rfl (q_cp rfl h44 rfl rfl rfl) ?_
  repeat refine stq rfl ?_
  refine qst rfl rfl (q_cf rfl h45 rfl rfl) ?_
  repeat refine stq rfl ?_
  exact end2 rfl rfl rfl rfl rfl trivial trivial rfl
 ·rw [if_neg hz]
  generalize standE l (ordNo l o) = e at *
  refine Ret.of_pwp layOk mixed Go.Proofs.Tryz.func47 rfl (by decide) rfl rfl ?_
  repeat refine stq rfl ?_
  refine qst rfl rfl (q_cp rfl h44 rfl rfl rfl) ?_
  repeat refine stq rfl ?_
  refine pw_cond rfl (fun h => ?_) (fun h => ?_)
  ·repeat refine stq rfl ?_
   exact end2 rfl rfl rfl rfl rfl trivial trivial rfl
  ·exact absurd (by simpa using h) hz
end Go.Pv


set_option maxHeartbeats 2000000
namespace Go.Pv
attribute [local irreducible] PWP POps PQuiet PSem XThen XBlock RetPost InlPost
open Go.Proofs
def numM (l : List SPost) : Nat → List (Int × Int)
 |0 => []
 |k + 1 => if restK l k = true then aput ((k : Int) + 1) (kap (restK l) (k + 1) : Nat) (numM l k) else numM l k
theorem numM_at (l : List SPost) : ∀ {k j : Nat},j < k → restK l j = true → aget (numM l k) ((j : Int) + 1) = (kap (restK l) (j + 1) : Nat)
 |0,j,h,_ => by omega
 |k + 1,j,h,hj => by
  rw [numM]
  by_cases hk : j = k
  ·subst hk
   rw [if_pos hj,aget_aput,if_pos rfl]
  ·have ih := numM_at l (k := k) (j := j) (by omega) hj
   split
   ·rw [aget_aput,if_neg (by omega),ih]
   ·exact ih
set_option maxRecDepth 20000 in
theorem rest_ret (l : List SPost) (hA : Acc l) : Ret Tryz.prog .fresh 51 [.dref (eBook l) 0] (.sl ((restL l).map ePost)) := by
 have hO := hA.ok
 have hl := hO.wf.len
 have hll : ((l.map ePost).length : Int) = l.length := by simp
 refine Ret.of_pwp layOk mixed Go.Proofs.Tryz.func51 rfl (by decide) rfl rfl ?_
 ((repeat (first | refine ps_nil ?_ | refine pq_nil ?_ | refine x_norm ?_ | refine pw_seq ?_));refine pw_region ?_)
 refine ps_v rfl trivial ?_
 ((repeat (first | refine ps_nil ?_ | refine pq_nil ?_ | refine x_norm ?_ | refine pw_seq ?_));refine pw_region ?_)
 refine ps_v rfl trivial ?_
 refine ps_v rfl trivial ?_
 refine ps_nil ?_
 refine x_norm ?_
 refine pw_cond rfl (fun h => absurd h (by simp)) (fun _ => ?_)
 refine pw_skip ?_
 ((repeat (first | refine ps_nil ?_ | refine pq_nil ?_ | refine x_norm ?_ | refine pw_seq ?_));refine pw_region ?_)
 refine ps_v rfl trivial ?_
 refine ps_nil ?_
 refine x_norm ?_
 refine pw_ghost (Ghost.nilreg (k := 3) (t := 3) 23 9 0 rfl rfl) ?_
 repeat refine stq rfl ?_
 refine ps_run (o_mkmap rfl ?_)
 repeat refine stq rfl ?_
 rw [hll]
 refine pw_loop (fun k => k ≤ l.length) (fun k => [(0,.dref (eBook l) 0),(3,.als 3 (1 + (sub (restK l) l k).length) 0 ((sub (restK l) l k).map ePost).length),(4,.mp 9 1),(13,.sl (l.map ePost)),(14,I l.length),(15,I k)]) (fun k => [(3,1 + (sub (restK l) l k).length,⟨23,9,(sub (restK l) l k).map ePost,0⟩),(9,1,⟨180,0,(numM l k).map eKV,0⟩)]) (fun k => l.length - k) 0 (Nat.zero_le _) ⟨rfl,rfl,rfl,rfl,rfl,rfl,rfl,rfl,trivial⟩ ?_
 intro k s hk
 have hk : k ≤ l.length := hk
 repeat refine stq rfl ?_
 refine pw_cond rfl (fun h => ?_) (fun h => ?_)
 ·have hlt : k < l.length := by have := of_decide_eq_true h;omega
  clear h
  have hx := ent_get hlt
  have hv := live_ret l hO.wf ((k : Int) + 1) (by omega)
  have hw : IntKind.wrap .i64 ((k : Int) + 1) = (k : Int) + 1 := wrap_i64 (by omega) (by omega)
  have hK : restK l k = (liveB l ((k : Int) + 1) && !decide ((entL l ((k : Int) + 1)).op = 8)) := rfl
  have hs : sub (restK l) l (k + 1) = if restK l k = true then sub (restK l) l k ++ [renum (restK l) (entL l ((k : Int) + 1))] else sub (restK l) l k := rfl
  have hm : numM l (k + 1) = if restK l k = true then aput ((k : Int) + 1) (kap (restK l) (k + 1) : Nat) (numM l k) else numM l k := rfl
  have hrefs := hO.refs k hlt
  have hag : restK l k = true → 0 < (entL l ((k : Int) + 1)).ref → aget (numM l k) (entL l ((k : Int) + 1)).ref = (kap (restK l) (entL l ((k : Int) + 1)).ref.toNat : Nat) := fun hkk hp => by
   have ho : (entL l ((k : Int) + 1)).op = 4 ∨ (entL l ((k : Int) + 1)).op = 5 ∨ (entL l ((k : Int) + 1)).op = 8 := by
    by_cases h' : (entL l ((k : Int) + 1)).op = 4 ∨ (entL l ((k : Int) + 1)).op = 5 ∨ (entL l ((k : Int) + 1)).op = 8
    ·exact h'
    ·have := (hO.pos _ _ hx).2.2.2 h';omega
   obtain ⟨g1,g2,g3⟩ := (rest_ok hA).ref hO hlt hkk ho
   obtain ⟨j,e1,e2⟩ := pred_nat g1
   rw [e2] at g3
   have := numM_at l (k := k) (j := j) (by omega) g3
   rw [e1,this,show ((j : Int) + 1).toNat = j + 1 by omega]
  have hkap := kap_yes (K := restK l) (k := k)
  have hsl := sub_len (restK l) l k
  have hkl := kap_le (restK l) k
  generalize sub (restK l) l k = S at *
  generalize numM l k = M at *
  generalize entL l ((k : Int) + 1) = x at *
  repeat refine stq rfl ?_
  refine qst rfl rfl (q_idxm rfl rfl rfl rfl rfl (by omega) hx rfl) ?_
  repeat refine stq rfl ?_
  (first|refine ps_split rfl rfl ?_ ?_|refine pq_split rfl rfl ?_ ?_|refine p3_split rfl rfl ?_ ?_)<;>intro h
  ·have g8 : x.op = 8 := by simpa using h
   have hkf : ¬ restK l k = true := by rw [hK,decide_eq_true g8];simp
   rw [if_neg hkf] at hs hm
   repeat refine stq rfl ?_
   exact ⟨k + 1,hlt,by omega,rfl,by rw [hs];rfl,rfl,rfl,rfl,i64_next (by omega) (by omega),by rw [hs];rfl,by rw [hm];rfl,trivial⟩
  have g8 : ¬ x.op = 8 := by simpa using h
  clear h
  rw [decide_eq_false g8] at hK
  generalize liveB l ((k : Int) + 1) = lv at *
  repeat refine stq rfl ?_
  rw [hw]
  refine qst rfl rfl (q_cp rfl hv rfl rfl rfl) ?_
  cases lv with
  |false =>
   have hkf : ¬ restK l k = true := by rw [hK];simp
   rw [if_neg hkf] at hs hm
   repeat refine stq rfl ?_
   exact ⟨k + 1,hlt,by omega,rfl,by rw [hs];rfl,rfl,rfl,rfl,i64_next (by omega) (by omega),by rw [hs];rfl,by rw [hm];rfl,trivial⟩
  |true =>
  have hkt : restK l k = true := by rw [hK];rfl
  rw [if_pos hkt] at hs hm
  have hag := hag hkt
  have hkap := hkap hkt
  repeat refine stq rfl ?_
  by_cases hp : 0 < x.ref
  ·have hag := hag hp
   have hrn : renum (restK l) x = ⟨x.op,x.day,x.order,x.item,x.ship,x.who,x.amount,aget M x.ref,x.role⟩ := by
    rw [renum,if_pos hp,hag]
   rw [hrn] at hs
   refine pw_cond rfl (fun h => ?_) (fun h => ?_)
   ·clear h
    repeat refine stq rfl ?_
    refine qst rfl rfl (q_lookG none rfl rfl rfl rfl rfl zone3 rfl rfl rfl rfl rfl rfl (keyedG_kv M)) ?_
    rw [mval_kv]
    repeat refine stq rfl ?_
    refine qst rfl rfl (q_slit rfl rfl rfl rfl rfl rfl rfl rfl rfl rfl (by repeat' constructor) rfl) ?_
    repeat refine stq rfl ?_
    refine ps_run (o_app 0 rfl rfl rfl rfl rfl rfl rfl rfl rfl rfl rfl (by repeat' constructor) (by intro row hr;first | (simp at hr;subst hr;rfl) | simp at hr) rfl rfl (by simp;omega) (by simp;omega) ?_)
    repeat refine stq rfl ?_
    rw [hw]
    refine ps_run0 (o_mset 0 rfl rfl rfl rfl rfl rfl rfl rfl rfl (keyed_kv M) rfl rfl ?_)
    rw [show ∀ v : Int,nrm 0 (PV.int .i64 v) = I v from fun _ => rfl,mput_kv]
    repeat refine stq rfl ?_
    refine ⟨k + 1,hlt,by omega,rfl,?_,rfl,rfl,rfl,i64_next (by omega) (by omega),?_,?_,trivial⟩
    ·rw [hs];exact als_snoc ePost 3 1 S (⟨x.op,x.day,x.order,x.item,x.ship,x.who,x.amount,aget M x.ref,x.role⟩ : SPost)
    ·rw [hs];exact cont_snoc ePost 1 23 9 0 S (⟨x.op,x.day,x.order,x.item,x.ship,x.who,x.amount,aget M x.ref,x.role⟩ : SPost)
    ·rw [hm,hkap,← hsl]
     simp
     rfl
   ·exact absurd (of_decide_eq_false h) (by omega)
  ·have hrn : renum (restK l) x = x := by rw [renum,if_neg hp]
   rw [hrn] at hs
   refine pw_cond rfl (fun h => ?_) (fun h => ?_)
   ·exact absurd (of_decide_eq_true h) (by omega)
   ·clear h
    repeat refine stq rfl ?_
    refine qst rfl rfl (q_slit rfl rfl rfl rfl rfl rfl rfl rfl rfl rfl (by repeat' constructor) rfl) ?_
    repeat refine stq rfl ?_
    refine ps_run (o_app 0 rfl rfl rfl rfl rfl rfl rfl rfl rfl rfl rfl (by repeat' constructor) (by intro row hr;first | (simp at hr;subst hr;rfl) | simp at hr) rfl rfl (by simp;omega) (by simp;omega) ?_)
    repeat refine stq rfl ?_
    rw [hw]
    refine ps_run0 (o_mset 0 rfl rfl rfl rfl rfl rfl rfl rfl rfl (keyed_kv M) rfl rfl ?_)
    rw [show ∀ v : Int,nrm 0 (PV.int .i64 v) = I v from fun _ => rfl,mput_kv]
    repeat refine stq rfl ?_
    refine ⟨k + 1,hlt,by omega,rfl,?_,rfl,rfl,rfl,i64_next (by omega) (by omega),?_,?_,trivial⟩
    ·rw [hs];exact als_snoc ePost 3 1 S x
    ·rw [hs];exact cont_snoc ePost 1 23 9 0 S x
    ·rw [hm,hkap,← hsl]
     simp
     rfl
 ·have hz : k = l.length := by have := of_decide_eq_false h;omega
  subst hz
  repeat refine stq rfl ?_
  exact end1f rfl rfl rfl ⟨rfl,rfl,rfl⟩ rfl
end Go.Pv


namespace Go.Pv
open Go.RowKit
variable [Globs]
section
variable {L : Lay} {s : St} {fn : Func} {r : PV}
end
end Go.Pv

