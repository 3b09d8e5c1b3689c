/- Texts of one hand, gathered: FsF, FsG, FsH, FtB. -/
import Derived.Test.YtjejnoojnndnlaaGreatBa5
set_option linter.unusedSectionVars false
set_option linter.unusedSimpArgs false
set_option linter.unusedVariables false
set_option linter.unnecessarySimpa false
set_option maxHeartbeats 2000000
namespace Go.Pv
attribute [local irreducible] PWP POps PQuiet PSem XThen XBlock RetPost InlPost
open Go.Proofs
theorem w0_ret : Ret Tryz.prog .shared 25 [I 0] (.agg (eR (ofQ 0))) := by
 have := bW_ret 0 ⟨by decide,by decide⟩
 rwa [show (((0 : Int) : Rat)) = 0 from rfl] at this
end Go.Pv


set_option maxHeartbeats 2000000
namespace Go.Pv
attribute [local irreducible] PWP POps PQuiet PSem XThen XBlock RetPost InlPost
open Go.Proofs
def imL (l : List SR) (z t : Rat) : List RR := l.map fun s => ofQ (yQ s z t)
def yI (l : List SR) (z t : Rat) (i : Nat) : Rat := yQ (l.getD i dS) z t
theorem im_at {l : List SR} {z t : Rat} {i : Nat} (hi : i < l.length) : (imL l z t)[i]? = some (ofQ (yI l z t i)) := by
 rw [imL,List.getElem?_map,get_some (d := dS) hi];rfl
end Go.Pv


set_option maxHeartbeats 2000000
namespace Go.Pv
attribute [local irreducible] PWP POps PQuiet PSem XThen XBlock RetPost InlPost
open Go.Proofs
theorem FL_at {l : List SR} {z t : Rat} {i : Nat} (hi : i < l.length) : (FL l z t)[i]? = some (ofQ (fI l z t i)) := by
 rw [FL,List.getElem?_map,get_some (d := dS) hi];rfl
theorem fI_hq {l : List SR} (hl : LimL l) (hf : FewL l) {z t : Rat} {n m : Nat} (hz : HQ z n) (ht : HQ t m) {i : Nat} (hi : i < l.length) : HQ (fI l z t i) (8 * (n + m + 60) + 4) := fQ_hq (hl.1 _ (getD_mem hi)) (hf.2 _ (getD_mem hi)) hz ht
end Go.Pv


set_option maxHeartbeats 2000000
namespace Go.Pv
attribute [local irreducible] PWP POps PQuiet PSem XThen XBlock RetPost InlPost
open Go.Proofs
theorem two_nn1 {n : Nat} {S M : Nat → Rat} (h : Crv n S M) (x z : Rat) : 0 ≤ (valQ n S M x - valQ n S M z) * (x - z) := by
 rcases Classical.em (x ≤ z) with g | g
 ·have h1 := val_mono h g
  have := Rat.mul_nonneg (show 0 ≤ valQ n S M z - valQ n S M x by grind) (show 0 ≤ z - x by grind)
  grind
 ·have h1 := val_mono h (show z ≤ x by grind)
  exact Rat.mul_nonneg (by grind) (by grind)
theorem brief_va {a : AR} (h : briefB a = true) : Va a a.z.val a.t.val 4 4 := by
 rw [briefB,Bool.and_eq_true,shR_sz,shR_sz] at h
 exact ⟨Vq.raw h.1.1 h.1.2,Vq.raw h.2.1 h.2.2⟩
def twoI (l : List SR) (z t z' t' : Rat) (i : Nat) : Rat := (fI l z t i - fI l z' t' i) * (yI l z t i - yI l z' t' i)
theorem two_sum_nn {l : List SR} (hc : checkL l = 0) (z t z' t' : Rat) : 0 ≤ sumN (twoI l z t z' t') l.length :=
 sumN_nonneg fun k hk => two_nn1 (curve_crv (checkL_curve hc _ (getD_mem hk))) _ _
set_option maxRecDepth 20000 in
theorem mono_law (l : List SR) (hlen : LenL l) (hd : DataL l) (a c : AR) : Ret Tryz.prog .shared 4 [.sl (l.map eS),.agg (eA a),.agg (eA c)] (.bool true) := by
 have aw := awake_ret
 have h1 := shortL_ret l hlen 10 4 (by decide) (by decide)
 have h2 := brief_ret a
 have h3 := brief_ret c
 have hs := shL_iff (l := l) (most := 10) (st := 4)
 by_cases x1 : shL l 10 4 = true
 rotate_left
 ·rw [Bool.not_eq_true] at x1
  rw [x1] at h1
  obtain ⟨az,at'⟩ := a
  obtain ⟨cz,ct⟩ := c
  refine Ret.of_pwp layOk mixed Go.Proofs.Tryz.func4 rfl (by decide) rfl rfl ?_
  repeat refine stq rfl ?_
  refine qst rfl rfl (q_cp rfl aw rfl rfl rfl) ?_
  repeat refine stq rfl ?_
  refine qst rfl rfl (q_cp rfl h1 rfl rfl rfl) ?_
  repeat refine stq rfl ?_
  exact end1b rfl rfl rfl
 rw [x1] at h1
 by_cases x2 : briefB a = true
 rotate_left
 ·rw [Bool.not_eq_true] at x2
  rw [x2] at h2
  obtain ⟨az,at'⟩ := a
  obtain ⟨cz,ct⟩ := c
  refine Ret.of_pwp layOk mixed Go.Proofs.Tryz.func4 rfl (by decide) rfl rfl ?_
  repeat refine stq rfl ?_
  refine qst rfl rfl (q_cp rfl aw rfl rfl rfl) ?_
  repeat refine stq rfl ?_
  refine qst rfl rfl (q_cp rfl h1 rfl rfl rfl) ?_
  repeat refine stq rfl ?_
  refine qst rfl rfl (q_cp rfl h2 rfl rfl rfl) ?_
  repeat refine stq rfl ?_
  exact end1b rfl rfl rfl
 rw [x2] at h2
 by_cases x3 : briefB c = true
 rotate_left
 ·rw [Bool.not_eq_true] at x3
  rw [x3] at h3
  obtain ⟨az,at'⟩ := a
  obtain ⟨cz,ct⟩ := c
  refine Ret.of_pwp layOk mixed Go.Proofs.Tryz.func4 rfl (by decide) rfl rfl ?_
  repeat refine stq rfl ?_
  refine qst rfl rfl (q_cp rfl aw rfl rfl rfl) ?_
  repeat refine stq rfl ?_
  refine qst rfl rfl (q_cp rfl h1 rfl rfl rfl) ?_
  repeat refine stq rfl ?_
  refine qst rfl rfl (q_cp rfl h2 rfl rfl rfl) ?_
  repeat refine stq rfl ?_
  refine qst rfl rfl (q_cp rfl h3 rfl rfl rfl) ?_
  repeat refine stq rfl ?_
  exact end1b rfl rfl rfl
 rw [x3] at h3
 have hsh := hs.1 x1
 have hl := short_limL hd hsh (by decide) (by decide)
 have hfew := short_few hsh (by decide) (by decide)
 have h4 := check_ret l hl
 by_cases x4 : checkL l = 0
 rotate_left
 ·generalize checkL l = ce at *
  obtain ⟨az,at'⟩ := a
  obtain ⟨cz,ct⟩ := c
  refine Ret.of_pwp layOk mixed Go.Proofs.Tryz.func4 rfl (by decide) rfl rfl ?_
  repeat refine stq rfl ?_
  refine qst rfl rfl (q_cp rfl aw rfl rfl rfl) ?_
  repeat refine stq rfl ?_
  refine qst rfl rfl (q_cp rfl h1 rfl rfl rfl) ?_
  repeat refine stq rfl ?_
  refine qst rfl rfl (q_cp rfl h2 rfl rfl rfl) ?_
  repeat refine stq rfl ?_
  refine qst rfl rfl (q_cp rfl h3 rfl rfl rfl) ?_
  repeat refine stq rfl ?_
  refine qst rfl rfl (q_cp rfl h4 rfl rfl rfl) ?_
  repeat refine stq rfl ?_
  refine pw_cond rfl (fun h => ?_) (fun h => ?_)
  ·repeat refine stq rfl ?_
   exact end1b rfl rfl rfl
  ·exfalso
   simp at h
   exact x4 h
 rw [x4] at h4
 have va := brief_va x2
 have vc := brief_va x3
 have f1 := forces_ret l hl x4 a (ha := va) (by decide)
 have f2 := forces_ret l hl x4 c (ha := vc) (by decide)
 have g1 := immersions_ret l hl x4 a (ha := va) (by decide)
 have g2 := immersions_ret l hl x4 c (ha := vc) (by decide)
 rw [show (l.map fun s => ofQ (yQ s a.z.val a.t.val)) = imL l a.z.val a.t.val from rfl] at g1
 rw [show (l.map fun s => ofQ (yQ s c.z.val c.t.val)) = imL l c.z.val c.t.val from rfl] at g2
 have h12 := hsh.1
 have w0 := w0_ret
 have hsum := two_sum_nn x4 a.z.val a.t.val c.z.val c.t.val
 have zq := va.z.hq
 have tq := va.t.hq
 have zq' := vc.z.hq
 have tq' := vc.t.hq
 generalize a.z.val = z at *
 generalize a.t.val = t at *
 generalize c.z.val = z' at *
 generalize c.t.val = t' at *
 have hfq : ∀ i,i < l.length → HQ (fI l z t i) 600 ∧ HQ (fI l z' t' i) 600 := fun i hi => ⟨(fI_hq hl hfew zq tq hi).mono (by decide),(fI_hq hl hfew zq' tq' hi).mono (by decide)⟩
 have hyq : ∀ i,i < l.length → HQ (yI l z t i) 40 ∧ HQ (yI l z' t' i) 40 := fun i hi => ⟨(yQ_hq (hl.1 _ (getD_mem hi)) zq tq).mono (by decide),(yQ_hq (hl.1 _ (getD_mem hi)) zq' tq').mono (by decide)⟩
 have htq : ∀ i,i < l.length → HQ (twoI l z t z' t' i) 1300 := fun i hi => (@HQ.mul _ _ _ _ (@HQ.sub _ _ _ _ (hfq i hi).1 (hfq i hi).2) (@HQ.sub _ _ _ _ (hyq i hi).1 (hyq i hi).2)).mono (by decide)
 have vs : ∀ i,i ≤ l.length → Vq (ofQ (sumN (twoI l z t z' t') i)) (sumN (twoI l z t z' t') i) (i * 1301 + 4) := fun i hi => Vq.ofQ (h := sumN_hq i fun k hk => htq k (by omega))
 have lF : (FL l z t).length = l.length := by rw [FL,List.length_map]
 have lG : (FL l z' t').length = l.length := by rw [FL,List.length_map]
 have lY : (imL l z t).length = l.length := by rw [imL,List.length_map]
 have lZ : (imL l z' t').length = l.length := by rw [imL,List.length_map]
 have aF : ∀ i,i < l.length → (FL l z t)[i]? = some (ofQ (fI l z t i)) := fun i hi => FL_at hi
 have aG : ∀ i,i < l.length → (FL l z' t')[i]? = some (ofQ (fI l z' t' i)) := fun i hi => FL_at hi
 have aY : ∀ i,i < l.length → (imL l z t)[i]? = some (ofQ (yI l z t i)) := fun i hi => im_at hi
 have aZ : ∀ i,i < l.length → (imL l z' t')[i]? = some (ofQ (yI l z' t' i)) := fun i hi => im_at hi
 generalize FL l z t = F at *
 generalize FL l z' t' = G at *
 generalize imL l z t = Y at *
 generalize imL l z' t' = Z at *
 have hml : (l.map eS).length = l.length := by simp
 clear va vc x2 x3 zq tq zq' tq'
 obtain ⟨az,at'⟩ := a
 obtain ⟨cz,ct⟩ := c
 refine Ret.of_pwp layOk mixed Go.Proofs.Tryz.func4 rfl (by decide) rfl rfl ?_
 repeat refine stq rfl ?_
 refine qst rfl rfl (q_cp rfl aw rfl rfl rfl) ?_
 repeat refine stq rfl ?_
 refine qst rfl rfl (q_cp rfl h1 rfl rfl rfl) ?_
 repeat refine stq rfl ?_
 refine qst rfl rfl (q_cp rfl h2 rfl rfl rfl) ?_
 repeat refine stq rfl ?_
 refine qst rfl rfl (q_cp rfl h3 rfl rfl rfl) ?_
 repeat refine stq rfl ?_
 refine qst rfl rfl (q_cp rfl h4 rfl rfl rfl) ?_
 repeat refine stq rfl ?_
 refine qst rfl rfl (q_cs rfl f1 rfl rfl) ?_
 repeat refine stq rfl ?_
 refine qst rfl rfl (q_cs rfl f2 rfl rfl) ?_
 repeat refine stq rfl ?_
 refine qst rfl rfl (q_cs rfl g1 rfl rfl) ?_
 repeat refine stq rfl ?_
 refine qst rfl rfl (q_cs rfl g2 rfl rfl) ?_
 repeat refine stq rfl ?_
 (first|refine ps_split rfl rfl ?_ ?_|refine pq_split rfl rfl ?_ ?_|refine p3_split rfl rfl ?_ ?_)<;>intro h
 ·exfalso
  simp [lF] at h
 clear h
 repeat refine stq rfl ?_
 (first|refine ps_split rfl rfl ?_ ?_|refine pq_split rfl rfl ?_ ?_|refine p3_split rfl rfl ?_ ?_)<;>intro h
 ·exfalso
  simp [lG] at h
 clear h
 repeat refine stq rfl ?_
 (first|refine ps_split rfl rfl ?_ ?_|refine pq_split rfl rfl ?_ ?_|refine p3_split rfl rfl ?_ ?_)<;>intro h
 ·exfalso
  simp [lY] at h
 clear h
 repeat refine stq rfl ?_
 refine pw_cond rfl (fun h => ?_) (fun h => ?_)
 ·exfalso
  simp [lZ] at h
 clear h
 repeat refine stq rfl ?_
 refine qst rfl rfl (q_cs rfl w0 rfl rfl) ?_
 repeat refine stq rfl ?_
 refine pw_loop (fun i : Nat => i ≤ l.length) (fun i => [(0,.sl (l.map eS)),(7,.sl (F.map eR)),(9,.sl (G.map eR)),(11,.sl (Y.map eR)),(13,.sl (Z.map eR)),(15,.ptr 15 1 0 0),(16,I (i : Nat))])
  (fun i => [(15,1,⟨26,4,[eR (ofQ (sumN (twoI l z t z' t') i))],2⟩)]) (fun i => l.length - i) 0 (Nat.zero_le _) ⟨rfl,rfl,rfl,rfl,rfl,rfl,rfl,rfl,trivial⟩ ?_
 intro i s hi
 repeat refine stq rfl ?_
 refine pw_cond rfl (fun h => ?_) (fun h => ?_)
 ·have hlt : i < l.length := by have := of_decide_eq_true h;omega
  clear h
  have bF := aF i hlt
  have bG := aG i hlt
  have bY := aY i hlt
  have bZ := aZ i hlt
  have qf := hfq i hlt
  have qy := hyq i hlt
  have hw : IntKind.i64.wrap (((i : Nat) : Int) + 1) = ((i + 1 : Nat) : Int) := by rw [wrap_i64 (by omega) (by omega)];omega
  have vf : Vq (ofQ (fI l z t i)) (fI l z t i) 600 := Vq.ofQ (h := qf.1)
  have vg : Vq (ofQ (fI l z' t' i)) (fI l z' t' i) 600 := Vq.ofQ (h := qf.2)
  have vy : Vq (ofQ (yI l z t i)) (yI l z t i) 40 := Vq.ofQ (h := qy.1)
  have vz : Vq (ofQ (yI l z' t' i)) (yI l z' t' i) 40 := Vq.ofQ (h := qy.2)
  have e1 := rsubR_ret (ofQ (fI l z t i)) (ofQ (fI l z' t' i)) (hx := vf) (hy := vg) (by decide) (by decide)
  have e2 := rsubR_ret (ofQ (yI l z t i)) (ofQ (yI l z' t' i)) (hx := vy) (hy := vz) (by decide) (by decide)
  have v1 : Vq (ofQ (fI l z t i - fI l z' t' i)) (fI l z t i - fI l z' t' i) 1201 := Vq.ofQ (h := @HQ.sub _ _ _ _ qf.1 qf.2)
  have v2 : Vq (ofQ (yI l z t i - yI l z' t' i)) (yI l z t i - yI l z' t' i) 81 := Vq.ofQ (h := @HQ.sub _ _ _ _ qy.1 qy.2)
  have e3 := rmulR_ret (ofQ (fI l z t i - fI l z' t' i)) (ofQ (yI l z t i - yI l z' t' i)) (hx := v1) (hy := v2) (by decide) (by decide)
  rw [show (fI l z t i - fI l z' t' i) * (yI l z t i - yI l z' t' i) = twoI l z t z' t' i from rfl] at e3
  have v3 : Vq (ofQ (twoI l z t z' t' i)) (twoI l z t z' t' i) 1300 := Vq.ofQ (h := htq i hlt)
  have e4 := raddR_ret (ofQ (sumN (twoI l z t z' t') i)) (ofQ (twoI l z t z' t' i)) (hx := vs i hi) (hy := v3) (by omega) (by decide)
  rw [show sumN (twoI l z t z' t') i + twoI l z t z' t' i = sumN (twoI l z t z' t') (i + 1) from rfl] at e4
  generalize hS1 : ofQ (sumN (twoI l z t z' t') (i + 1)) = S1 at *
  generalize ofQ (sumN (twoI l z t z' t') i) = S0 at *
  generalize ofQ (twoI l z t z' t' i) = T0 at *
  generalize ofQ (fI l z t i - fI l z' t' i) = D1 at *
  generalize ofQ (yI l z t i - yI l z' t' i) = D2 at *
  generalize ofQ (fI l z t i) = K1 at *
  generalize ofQ (fI l z' t' i) = K2 at *
  generalize ofQ (yI l z t i) = K3 at *
  generalize ofQ (yI l z' t' i) = K4 at *
  repeat refine stq rfl ?_
  refine pw_draw 21 [110,111,112,113,114,115,116,117,118,119,120,121,122,123,124,125,126,127,128,129,130] (by decide +kernel) ?_
  repeat refine stq rfl ?_
  refine qst rfl rfl (q_idxm rfl rfl rfl rfl rfl (by omega) bF rfl) ?_
  repeat refine stq rfl ?_
  refine qst rfl rfl (q_idxm rfl rfl rfl rfl rfl (by omega) bG rfl) ?_
  repeat refine stq rfl ?_
  refine qst rfl rfl (q_cs rfl e1 rfl rfl) ?_
  repeat refine stq rfl ?_
  refine qst rfl rfl (q_idxm rfl rfl rfl rfl rfl (by omega) bY rfl) ?_
  repeat refine stq rfl ?_
  refine qst rfl rfl (q_idxm rfl rfl rfl rfl rfl (by omega) bZ rfl) ?_
  repeat refine stq rfl ?_
  refine qst rfl rfl (q_cs rfl e2 rfl rfl) ?_
  repeat refine stq rfl ?_
  refine qst rfl rfl (q_cs rfl e3 rfl rfl) ?_
  repeat refine stq rfl ?_
  refine qst rfl rfl (q_cs rfl e4 rfl rfl) ?_
  repeat refine stq rfl ?_
  refine ⟨i + 1,hlt,by omega,rfl,rfl,rfl,rfl,rfl,rfl,congrArg I hw,?_,trivial⟩
  show (_ : Nat × Option Cont) = (1,some (Cont.mk 26 4 [eR (ofQ (sumN (twoI l z t z' t') (i + 1)))] 2))
  rw [hS1]
  rfl
 ·have hie : i = l.length := by have := of_decide_eq_false h;omega
  clear h
  subst hie
  have vS := vs l.length (Nat.le_refl _)
  have e5 := rsignR_ret (ofQ (sumN (twoI l z t z' t') l.length)) (hx := vS) (by omega)
  have hge := (sgn_ge _).2 hsum
  generalize sgn (sumN (twoI l z t z' t') l.length) = sg at *
  generalize ofQ (sumN (twoI l z t z' t') l.length) = SS at *
  repeat refine stq rfl ?_
  refine qst rfl rfl (q_cp rfl e5 rfl rfl rfl) ?_
  repeat refine stq rfl ?_
  exact end1b rfl rfl (congrArg PV.bool (decide_eq_true hge))
end Go.Pv

