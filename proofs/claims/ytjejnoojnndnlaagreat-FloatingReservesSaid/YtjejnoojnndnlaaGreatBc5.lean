/- Texts of one hand, gathered: FcO, FcP, LeC, Shelf, FcQ, FcR, FcS, FcT, FcU, FcV, FcW, FcX, FcY, FcZ, FdA, FdB, FdC, FdD, FdE, FdF, FdG, FdH, FdI, FdK, FdL, FdM, FsA, FsB, FsC, FsD, PvXw, FsE. -/
import Derived.Test.YtjejnoojnndnlaaGreatBc4
import Derived.Sort.Grow
import Derived.Shelf.GgSortFunc.RowK
import Derived.Shelf.Sort.Plain
import Derived.Ground.Names2Prog
import Derived.Shelf.Slices.CompactI
import Derived.Shelf.Slices.Cells
import Derived.Shelf.Slices.In.SortNone
import Derived.Test.YtjejnoojnndnlaaGreatProg
import Derived.Lib.SlicesCompact
set_option linter.unusedSectionVars false
set_option linter.unusedSimpArgs false
set_option linter.unusedVariables false
set_option linter.unnecessarySimpa false
set_option maxHeartbeats 2000000
namespace Go.Pv
attribute [local irreducible] PWP POps PQuiet PSem XThen XBlock RetPost InlPost
open Go.Proofs
theorem demand_ret (w : Int) (hw : i64 w) (x : RR) (r : AR) {p A B : Rat} {k n m : Nat} (hx : Vq x p k) (hr : Va r A B n m) (h1 : k ≤ 1000000) (h2 : n ≤ 1000000) (h3 : m ≤ 1000000) : Ret Tryz.prog .shared 97 [I w,.agg (eR x),.agg (eA r)] (.agg (eR (ofQ ((w : Rat) * (A + B * p))))) := by
 have zw : Zb w := zb_i64 hw.1 hw.2
 have d1 := wholeF w hw
 have d2 := mulR r.t x (hx := hr.t) (hy := hx) (by omega) (by omega)
 have v2 : Vq (ofQ (B * p)) (B * p) (m + 1 + (k + 1)) := Vq.ofQ (h := @HQ.mul _ _ (m + 1) (k + 1) hr.t.hq hx.hq)
 have d3 := addR r.z (ofQ (B * p)) (hx := hr.z) (hy := v2) (by omega) (by omega)
 have v3 : Vq (ofQ (A + B * p)) (A + B * p) (n + 1 + (m + 1 + (k + 1)) + 1) := Vq.ofQ (h := @HQ.add _ _ (n + 1) _ hr.z.hq (vq_hq2 v2))
 have d4 := mulR (ofQ (w : Rat)) (ofQ (A + B * p)) (hy := v3) (by decide) (by omega)
 generalize ofQ ((w : Rat) * (A + B * p)) = X4 at *
 generalize ofQ (A + B * p) = X3 at *
 generalize ofQ (B * p) = X2 at *
 generalize ofQ (w : Rat) = X1 at *
 obtain ⟨az,at'⟩ := r
 try simp only at *
 refine Ret.of_pwp layOk mixed Go.Proofs.Tryz.func97 rfl (by decide) rfl rfl ?_
 repeat refine stq rfl ?_
 refine pw_draw 10 [7,8,9,10,11,12,13,14,15,16] (by decide +kernel) ?_
 repeat refine stq rfl ?_
 refine qst rfl rfl (q_cs rfl d1 rfl rfl) ?_
 repeat refine stq rfl ?_
 refine qst rfl rfl (q_cs rfl d2 rfl rfl) ?_
 repeat refine stq rfl ?_
 refine qst rfl rfl (q_cs rfl d3 rfl rfl) ?_
 repeat refine stq rfl ?_
 refine qst rfl rfl (q_cs rfl d4 rfl rfl) ?_
 repeat refine stq rfl ?_
 exact endm rfl (by repeat' constructor) rfl (by repeat' constructor) rfl
def dI (l : List SR) (A B : Rat) (i : Nat) : Rat := A + B * xI l i
def cI (l : List SR) (i : Nat) : Rat := capQ (l.getD i dS).k.S.length (l.getD i dS).k.s (l.getD i dS).k.m
def limI (l : List SR) (i : Nat) : Prop := befQ (l.getD i dS).k.m (l.getD i dS).k.S.length = 0
def yT (l : List SR) (A B : Rat) (i : Nat) : Rat := if 0 < A + B * xI l i then cI l i * (A + B * xI l i) else 0
def AllLim (l : List SR) (A B : Rat) (n : Nat) : Prop := ∀ i,i < n → 0 < A + B * xI l i → limI l i
noncomputable def yldR (l : List SR) (A B : Rat) : PV := @ite _ (AllLim l A B l.length) (Classical.propDecidable _) (.tup [.agg (eR (ofQ (sumN (yT l A B) l.length))),.bool true]) (.tup [.agg zN,.bool false])
theorem cap_hq {c : CR} (hc : c.Lim) (h8 : c.S.length ≤ 8) (h0 : befQ c.m c.S.length = 0) : HQ (capQ c.S.length c.s c.m) 200 := by
 rw [cap_sum h0]
 exact (sumN_hq (c.S.length - 1) fun k _ => capT_hq hc k).mono (by omega)
theorem yT_hq {l : List SR} (hl : LimL l) (hf : FewL l) {A B : Rat} {n m : Nat} (hA : HQ A n) (hB : HQ B m) {i : Nat} (hi : i < l.length) (ha : 0 < A + B * xI l i → limI l i) : HQ (yT l A B i) (200 + (n + (m + 4) + 1)) := by
 rw [yT]
 split
 ·rename_i h
  have hx := (hl.1 _ (getD_mem hi)).x
  have hx : Zb (l.getD i dS).x := zb_i64 hx.1 hx.2
  exact @HQ.mul _ _ 200 (n + (m + 4) + 1) (cap_hq (hl.1 _ (getD_mem hi)).k (hf.2 _ (getD_mem hi)) (ha h)) (@HQ.add _ _ n (m + 4) hA (@HQ.mul _ _ m 4 hB HQ.int))
 ·exact HQ.zero.mono (by omega)
set_option maxRecDepth 20000 in
theorem yield_ret (l : List SR) (hl : LimL l) (hf : FewL l) (hck : checkL l = 0) (r : AR) {A B : Rat} {n m : Nat} (hr : Va r A B n m) (h2 : n ≤ 100000) (h3 : m ≤ 100000) : Ret Tryz.prog .shared 96 [.sl (l.map eS),.agg (eA r)] (yldR l A B) := by
 have hw0 := wholeF 0 ⟨by decide,by decide⟩
 rw [show (((0 : Int) : Rat)) = 0 from rfl] at hw0
 have hml : (l.map eS).length = l.length := by simp
 have hz := hr.z.hq
 have ht := hr.t.hq
 have h12 := hf.1
 generalize hR : yldR l A B = R
 rw [yldR] at hR
 obtain ⟨rz,rt⟩ := r
 have hrz := hr.z
 have hrt := hr.t
 simp only at hrz hrt
 refine Ret.of_pwp layOk mixed Go.Proofs.Tryz.func96 rfl (by decide) rfl rfl ?_
 repeat refine stq rfl ?_
 refine qst rfl rfl (q_cs rfl hw0 rfl rfl) ?_
 repeat refine stq rfl ?_
 refine pw_loop (fun i : Nat => i ≤ l.length ∧ AllLim l A B i) (fun i => [(3,.ptr 3 1 0 0),(4,.ptr 4 1 0 0),(6,.ptr 6 1 0 0),(14,.sl (l.map eS)),(15,I l.length),(16,I (i : Nat))])
  (fun i => [(3,1,⟨62,8,[eA ⟨rz,rt⟩],2⟩),(4,1,⟨26,4,[zN],2⟩),(6,1,⟨26,4,[eR (ofQ (sumN (yT l A B) i))],2⟩)]) (fun i => l.length - i) 0 ⟨Nat.zero_le _,fun i hi => by omega⟩ ⟨rfl,rfl,rfl,rfl,by rw [← hml];rfl,rfl,rfl,rfl,rfl,trivial⟩ ?_
 intro i s ⟨hi,hall⟩
 repeat refine stq rfl ?_
 refine pw_cond rfl (fun h => ?_) (fun h => ?_)
 ·have hlt : i < l.length := by have := of_decide_eq_true h;omega
  clear h
  have hx := get_some (d := dS) hlt
  have hsl := hl.1 _ (getD_mem hlt)
  have h8 := hf.2 _ (getD_mem hlt)
  have hkc := checkL_curve hck _ (getD_mem hlt)
  have hxx := hsl.x
  have hzb : Zb (l.getD i dS).x := zb_i64 hxx.1 hxx.2
  have hw : IntKind.i64.wrap (((i : Nat) : Int) + 1) = ((i + 1 : Nat) : Int) := by rw [wrap_i64 (by omega) (by omega)];omega
  have e1 := wholeF (l.getD i dS).x hxx
  rw [show ((l.getD i dS).x : Rat) = xI l i from rfl] at e1
  have vx : Vq (ofQ (xI l i)) (xI l i) 4 := Vq.ofQ (h := HQ.int)
  have e2 := mulR rt (ofQ (xI l i)) (hx := hrt) (hy := vx) (by omega) (by decide)
  have v2 : Vq (ofQ (B * xI l i)) (B * xI l i) (m + 1 + 4) := Vq.ofQ (h := @HQ.mul _ _ (m + 1) 4 ht HQ.int)
  have e3 := addR rz (ofQ (B * xI l i)) (hx := hrz) (hy := v2) (by omega) (by omega)
  have v3 : Vq (ofQ (A + B * xI l i)) (A + B * xI l i) (n + 1 + (m + 1 + 4) + 1) := Vq.ofQ (h := @HQ.add _ _ (n + 1) _ hz (vq_hq2 v2))
  have e4 := signF (ofQ (A + B * xI l i)) (hx := v3) (by omega)
  have hsg := sgn_le (A + B * xI l i)
  by_cases hd : 0 < A + B * xI l i
  ·have hsn : ¬ sgn (A + B * xI l i) ≤ 0 := fun h => by have := hsg.1 h;grind
   have e5 := capacity_ret (l.getD i dS).k hsl.k hkc
   rw [capR] at e5
   generalize sgn (A + B * xI l i) = g at *
   by_cases hlim : limI l i
   ·rw [if_pos (show befQ (l.getD i dS).k.m (l.getD i dS).k.S.length = 0 from hlim)] at e5
    have hcl := cap_hq hsl.k h8 hlim
    rw [show capQ (l.getD i dS).k.S.length (l.getD i dS).k.s (l.getD i dS).k.m = cI l i from rfl] at e5 hcl
    have vc : Vq (ofQ (cI l i)) (cI l i) 200 := Vq.ofQ (h := hcl)
    have e6 := mulR (ofQ (cI l i)) (ofQ (A + B * xI l i)) (hx := vc) (hy := v3) (by decide) (by omega)
    have hall' : AllLim l A B (i + 1) := fun j hj hp => by
     by_cases hje : j = i
     ·subst hje;exact hlim
     ·exact hall j (by omega) hp
    have v6 : Vq (ofQ (cI l i * (A + B * xI l i))) (cI l i * (A + B * xI l i)) (200 + (n + 1 + (m + 1 + 4) + 1)) := Vq.ofQ (h := @HQ.mul _ _ 200 _ hcl (vq_hq2 v3))
    have v7 : Vq (ofQ (sumN (yT l A B) i)) (sumN (yT l A B) i) (i * (200 + (n + 1 + (m + 1 + 4) + 1) + 1) + 4) := Vq.ofQ (h := sumN_hq i fun k hk => yT_hq hl hf hz ht (by omega) (hall k hk))
    have e7 := addR (ofQ (sumN (yT l A B) i)) (ofQ (cI l i * (A + B * xI l i))) (hx := v7) (hy := v6) (by have := Nat.mul_le_mul (show i ≤ 12 by omega) (show 200 + (n + 1 + (m + 1 + 4) + 1) + 1 ≤ 200208 by omega);omega) (by omega)
    rw [show sumN (yT l A B) i + cI l i * (A + B * xI l i) = sumN (yT l A B) (i + 1) by rw [sumN,yT,if_pos hd]] at e7
    generalize ofQ (sumN (yT l A B) i) = K0 at *
    generalize hK1 : ofQ (sumN (yT l A B) (i + 1)) = K1 at *
    generalize ofQ (cI l i * (A + B * xI l i)) = P0 at *
    generalize ofQ (cI l i) = C0 at *
    generalize ofQ (A + B * xI l i) = D0 at *
    generalize ofQ (B * xI l i) = D1 at *
    generalize ofQ (xI l i) = D2 at *
    repeat refine stq rfl ?_
    refine qst rfl rfl (q_idxm rfl rfl rfl rfl rfl (by omega) hx rfl) ?_
    (repeat ((fail_if_success (with_reducible refine pw_at 5 ?_));refine stx rfl ?_))
    refine pw_ghost (gdrop 9) ?_
    refine pw_draw2 9 1 [20,21,22,23,24,25,26,27,28,9] [] (by decide +kernel) rfl ?_
    repeat refine stq rfl ?_
    refine qst rfl rfl (q_cs rfl e1 rfl rfl) ?_
    repeat refine stq rfl ?_
    refine qst rfl rfl (q_cs rfl e2 rfl rfl) ?_
    repeat refine stq rfl ?_
    refine qst rfl rfl (q_cs rfl e3 rfl rfl) ?_
    repeat refine stq rfl ?_
    refine qst rfl rfl (q_cp rfl e4 rfl rfl rfl) ?_
    repeat refine stq rfl ?_
    refine pw_cond rfl (fun h => ?_) (fun h => ?_)
    ·exact absurd (of_decide_eq_true h) hsn
    clear h
    repeat refine stq rfl ?_
    refine qst rfl rfl (q_cs rfl e5 rfl rfl) ?_
    repeat refine stq rfl ?_
    refine pw_draw 5 [42,43,44,45,46] (by decide +kernel) ?_
    repeat refine stq rfl ?_
    refine qst rfl rfl (q_cs rfl e6 rfl rfl) ?_
    repeat refine stq rfl ?_
    refine qst rfl rfl (q_cs rfl e7 rfl rfl) ?_
    repeat refine stq rfl ?_
    refine ⟨i + 1,⟨by omega,hall'⟩,by omega,rfl,rfl,rfl,rfl,rfl,congrArg I hw,rfl,rfl,?_,trivial⟩
    show (_ : Nat × Option Cont) = (1,some (Cont.mk 26 4 [eR (ofQ (sumN (yT l A B) (i + 1)))] 2))
    rw [hK1]
    rfl
   ·rw [if_neg (show ¬ befQ (l.getD i dS).k.m (l.getD i dS).k.S.length = 0 from hlim)] at e5
    rw [if_neg (fun h => hlim (h i hlt hd))] at hR
    subst hR
    generalize ofQ (A + B * xI l i) = D0 at *
    generalize ofQ (B * xI l i) = D1 at *
    generalize ofQ (xI l i) = D2 at *
    repeat refine stq rfl ?_
    refine qst rfl rfl (q_idxm rfl rfl rfl rfl rfl (by omega) hx rfl) ?_
    (repeat ((fail_if_success (with_reducible refine pw_at 5 ?_));refine stx rfl ?_))
    refine pw_ghost (gdrop 9) ?_
    refine pw_draw2 9 1 [20,21,22,23,24,25,26,27,28,9] [] (by decide +kernel) rfl ?_
    repeat refine stq rfl ?_
    refine qst rfl rfl (q_cs rfl e1 rfl rfl) ?_
    repeat refine stq rfl ?_
    refine qst rfl rfl (q_cs rfl e2 rfl rfl) ?_
    repeat refine stq rfl ?_
    refine qst rfl rfl (q_cs rfl e3 rfl rfl) ?_
    repeat refine stq rfl ?_
    refine qst rfl rfl (q_cp rfl e4 rfl rfl rfl) ?_
    repeat refine stq rfl ?_
    refine pw_cond rfl (fun h => ?_) (fun h => ?_)
    ·exact absurd (of_decide_eq_true h) hsn
    clear h
    repeat refine stq rfl ?_
    refine qst rfl rfl (q_cs rfl e5 rfl rfl) ?_
    repeat refine stq rfl ?_
    exact endm rfl (by repeat' constructor) rfl (by repeat' constructor) rfl
  ·have hsn : sgn (A + B * xI l i) ≤ 0 := hsg.2 (by grind)
   have hall' : AllLim l A B (i + 1) := fun j hj hp => by
    by_cases hje : j = i
    ·subst hje;exact absurd hp hd
    ·exact hall j (by omega) hp
   have hsum : sumN (yT l A B) (i + 1) = sumN (yT l A B) i := by rw [sumN,yT,if_neg hd];grind
   generalize sgn (A + B * xI l i) = g at *
   generalize ofQ (A + B * xI l i) = D0 at *
   generalize ofQ (B * xI l i) = D1 at *
   generalize ofQ (xI l i) = D2 at *
   repeat refine stq rfl ?_
   refine qst rfl rfl (q_idxm rfl rfl rfl rfl rfl (by omega) hx rfl) ?_
   (repeat ((fail_if_success (with_reducible refine pw_at 5 ?_));refine stx rfl ?_))
   refine pw_ghost (gdrop 9) ?_
   refine pw_draw2 9 1 [20,21,22,23,24,25,26,27,28,9] [] (by decide +kernel) rfl ?_
   repeat refine stq rfl ?_
   refine qst rfl rfl (q_cs rfl e1 rfl rfl) ?_
   repeat refine stq rfl ?_
   refine qst rfl rfl (q_cs rfl e2 rfl rfl) ?_
   repeat refine stq rfl ?_
   refine qst rfl rfl (q_cs rfl e3 rfl rfl) ?_
   repeat refine stq rfl ?_
   refine qst rfl rfl (q_cp rfl e4 rfl rfl rfl) ?_
   repeat refine stq rfl ?_
   refine pw_cond rfl (fun h => ?_) (fun h => ?_)
   ·clear h
    repeat refine stq rfl ?_
    refine ⟨i + 1,⟨by omega,hall'⟩,by omega,rfl,rfl,rfl,rfl,rfl,congrArg I hw,rfl,rfl,?_,trivial⟩
    show (_ : Nat × Option Cont) = (1,some (Cont.mk 26 4 [eR (ofQ (sumN (yT l A B) (i + 1)))] 2))
    rw [hsum]
    rfl
   ·exact absurd hsn (of_decide_eq_false h)
 ·have hie : i = l.length := by have := of_decide_eq_false h;omega
  clear h
  subst hie
  rw [if_pos hall] at hR
  subst hR
  repeat refine stq rfl ?_
  exact endm rfl (by repeat' constructor) rfl (by repeat' constructor) rfl
end Go.Pv


set_option maxHeartbeats 2000000
namespace Go.Pv
attribute [local irreducible] PWP POps PQuiet PSem XThen XBlock RetPost InlPost
open Go.Proofs
noncomputable def refB (b : BR) (A B : Rat) : Bool := @decide (AllLim b.l A B b.l.length ∧ sumN (yT b.l A B) b.l.length < (b.w : Rat) * (A + B * b.a.val)) (Classical.propDecidable _)
set_option maxRecDepth 20000 in
theorem refuses_ret (b : BR) (hb : b.Ok) (r : AR) {A B : Rat} {n m : Nat} (hr : Va r A B n m) (h2 : n ≤ 90000) (h3 : m ≤ 90000) : Ret Tryz.prog .shared 116 [.agg (eB b),.agg (eA r)] (.bool (refB b A B)) := by
 have h1 := yield_ret b.l hb.lim.l hb.few hb.chkL r hr (by omega) (by omega)
 have zw : Zb b.w := zb_i64 hb.lim.w.1 hb.lim.w.2
 have hd := demand_ret b.w hb.lim.w b.a r hb.lim.a.v hr (by decide) (by omega) (by omega)
 have vd : Vq (ofQ ((b.w : Rat) * (A + B * b.a.val))) ((b.w : Rat) * (A + B * b.a.val)) (4 + (n + 1 + (m + 1 + 13) + 1)) := Vq.ofQ (h := @HQ.mul _ _ 4 _ HQ.int (@HQ.add _ _ (n + 1) _ hr.z.hq (@HQ.mul _ _ (m + 1) 13 hr.t.hq hb.lim.a.v.hq)))
 rw [yldR] at h1
 by_cases hall : AllLim b.l A B b.l.length
 ·rw [if_pos hall] at h1
  have h12 := hb.few.1
  have hs := sumN_hq (m := 200 + (n + 1 + (m + 1 + 4) + 1)) b.l.length fun k hk => yT_hq hb.lim.l hb.few hr.z.hq hr.t.hq hk (hall k hk)
  have vs : Vq (ofQ (sumN (yT b.l A B) b.l.length)) (sumN (yT b.l A B) b.l.length) (b.l.length * (200 + (n + 1 + (m + 1 + 4) + 1) + 1) + 4) := Vq.ofQ (h := hs)
  have hc := cmpR (ofQ (sumN (yT b.l A B) b.l.length)) (ofQ ((b.w : Rat) * (A + B * b.a.val))) (hx := vs) (hy := vd) (by have := Nat.mul_le_mul (show b.l.length ≤ 12 by omega) (show 200 + (n + 1 + (m + 1 + 4) + 1) + 1 ≤ 180210 by omega);omega) (by omega)
  have hsl := sgn_lt (sumN (yT b.l A B) b.l.length - (b.w : Rat) * (A + B * b.a.val))
  have key : refB b A B = decide (sgn (sumN (yT b.l A B) b.l.length - (b.w : Rat) * (A + B * b.a.val)) < 0) := by
   rw [refB,decide_eq_decide,hsl]
   constructor
   ·intro h;have := h.2;grind
   ·intro h;exact ⟨hall,by grind⟩
  rw [key]
  generalize sgn (sumN (yT b.l A B) b.l.length - (b.w : Rat) * (A + B * b.a.val)) = g at *
  generalize ofQ (sumN (yT b.l A B) b.l.length) = S at *
  generalize ofQ ((b.w : Rat) * (A + B * b.a.val)) = D at *
  obtain ⟨w,ba,l⟩ := b
  obtain ⟨rz,rt⟩ := r
  try simp only at *
  refine Ret.of_pwp layOk mixed Go.Proofs.Tryz.func116 rfl (by decide) rfl rfl ?_
  repeat refine stq rfl ?_
  refine qst rfl rfl (q_cs rfl h1 rfl rfl) ?_
  repeat refine stq rfl ?_
  refine pw_draw 13 [14,15,16,17,18,19,20,21,22,23,24,25,4] (by decide +kernel) ?_
  repeat refine stq rfl ?_
  refine qst rfl rfl (q_cs rfl hd rfl rfl) ?_
  repeat refine stq rfl ?_
  refine qst rfl rfl (q_cp rfl hc rfl rfl rfl) ?_
  repeat refine stq rfl ?_
  exact end1b rfl rfl rfl
 ·rw [if_neg hall] at h1
  have key : refB b A B = false := by
   unfold refB
   exact @decide_eq_false _ (Classical.propDecidable _) (fun h => hall h.1)
  rw [key]
  clear hd vd
  obtain ⟨w,ba,l⟩ := b
  obtain ⟨rz,rt⟩ := r
  try simp only at *
  refine Ret.of_pwp layOk mixed Go.Proofs.Tryz.func116 rfl (by decide) rfl rfl ?_
  repeat refine stq rfl ?_
  refine qst rfl rfl (q_cs rfl h1 rfl rfl) ?_
  repeat refine stq rfl ?_
  refine pw_draw 13 [14,15,16,17,18,19,20,21,22,23,24,25,4] (by decide +kernel) ?_
  repeat refine stq rfl ?_
  exact end1b rfl rfl rfl
end Go.Pv


namespace Go.Pv
open Go.RowKit Go.Sort
section
variable {P : Program} {L : Lay} {C : Ctx} {γ : Nat → Option Nat} {s : St} {a : Act} {w w' : World}
structure Chg (w w' : World) (b : Nat) (T : TypeId) (cur : Array Value) : Prop where
 os : w'.os = w.os
 tape : w'.tape = w.tape
 output : w'.output = w.output
 size : w.heap.size ≤ w'.heap.size
 other : ∀ b',b' ≠ b → b' < w.heap.size → w'.heap[b']? = w.heap[b']?
 at_ : w'.heap[b]? = some (.cells cur T (0,0))
theorem chg_sim (h : Sim C γ s a w) {k g b : Nat} {c c' : Cont} {cur cur' : Array Value} (ho : s.own k = (g,some c)) (hb : γ k = some b) (hh : w.heap[b]? = some (.cells cur c.ty (0,0))) (hsz : cur'.size = cur.size)
  (hc : Chg w w' b c.ty cur') (h1 : c'.ty = c.ty) (h2 : c'.sz = c.sz) (h3 : c.rows.length ≤ c'.rows.length) (hs : SiteOk (envOf C γ (s.setOwn k g (some c')) (w.setRow b cur')) (some b) c') : Sim C γ (s.setOwn k g (some c')) a w' := by
 refine (store_sim h ho hb hh hsz h1 h2 h3 hs).ext ⟨hc.os,hc.tape,hc.output,by simpa using hc.size,fun b' hb' => ?_⟩
 have hb'' : b' < w.heap.size := by simpa using hb'
 by_cases he : b' = b
 ·subst he
  rw [hc.at_,setRow_heap w b' cur cur' c.ty (0,0) hh]
 ·rw [hc.other b' he hb'',setRow_other w b b' cur' he]
theorem chg_put {α : Type} [Inhabited α] {e : α → Value} {q b : Nat} {d' : Array α} {os : Array Obj} {T : TypeId} {cur : Array Value} (hh : w.heap[b]? = some (.cells cur T (0,0))) (hw : w' = grow (putRow e (Sort.ahead w q) b 0 d') os) : Chg w w' b T (putCells e 0 d' cur) := by
 have hlt : b < w.heap.size := (Array.getElem?_eq_some_iff.1 hh).1
 subst hw
 refine ⟨rfl,rfl,rfl,by simp,fun b' hne hb' => ?_,?_⟩
 ·rw [heap_grow_old _ _ (by simpa using hb')]
  show (w.heap.modify b _)[b']? = _
  rw [Array.getElem?_modify,if_neg (Ne.symm hne)]
 ·rw [heap_grow_old _ _ (by simpa using hlt)]
  show (w.heap.modify b _)[b]? = _
  rw [Array.getElem?_modify,if_pos rfl,hh]
  rfl
theorem putCells_size {α : Type} [Inhabited α] (e : α → Value) (off : Nat) (d : Array α) (c : Array Value) : (putCells e off d c).size = c.size := by simp [putCells]
theorem putCells_take {α : Type} [Inhabited α] (e : α → Value) (d : Array α) (c : Array Value) (h : d.size ≤ c.size) : (putCells e 0 d c).toList.take d.size = d.toList.map e := by
 apply List.ext_getElem
 ·simp [putCells];omega
 intro i h1 h2
 have hi : i < d.size := by simpa using h2
 simp [putCells,hi]
theorem plain_krep {E : Env} {k : Nat} {c : PV} (h : plain1 c = true) : KRep E k c (scv c) := by
 match k with
 |0 => exact (plain_drep h _ _).1
 |1 => exact (plain_drep h _ _).1
 |_ + 2 => exact .d (plain_drep h _ _).1
def flatV {α : Type} (enc : α → List PV) (l : List α) : List Value := l.flatMap fun x => (enc x).map scv
theorem flatV_len {α : Type} {enc : α → List PV} {sz : Nat} (h : ∀ x,(enc x).length = sz) (l : List α) : (flatV enc l).length = l.length * sz := by
 induction l with
 |nil => simp [flatV]
 |cons x l ih => simp only [flatV,List.flatMap_cons,List.length_append,List.length_map,List.length_cons,h,Nat.add_mul,Nat.one_mul] at ih ⊢;omega
theorem flatV_at {α : Type} {enc : α → List PV} {sz : Nat} (h : ∀ x,(enc x).length = sz) : ∀ (l : List α) (i j : Nat) (x : α) (c : PV),l[i]? = some x → (enc x)[j]? = some c → (flatV enc l)[i * sz + j]? = some (scv c)
 |[],i,j,x,c,h1,_ => by simp at h1
 |y :: l,0,j,x,c,h1,h2 => by
  simp at h1;subst h1
  have hj := (List.getElem?_eq_some_iff.1 h2).1
  rw [flatV,List.flatMap_cons,List.getElem?_append_left (by simp;omega),List.getElem?_map,Nat.zero_mul,Nat.zero_add,h2];rfl
 |y :: l,i + 1,j,x,c,h1,h2 => by
  have ih := flatV_at h l i j x c (by simpa using h1) h2
  rw [flatV,List.flatMap_cons,List.getElem?_append_right (by rw [List.length_map,h,Nat.add_mul];omega),List.length_map,h]
  rw [show (i + 1) * sz + j - sz = i * sz + j by rw [Nat.add_mul];omega]
  exact ih
theorem take_at {l m : List Value} {n i : Nat} {v : Value} (h : l.take n = m) (hi : m[i]? = some v) : l[i]? = some v := by
 rw [← h,List.getElem?_take] at hi
 split at hi
 ·exact hi
 ·cases hi
def roV (ro : Option Nat) (a : Option Addr) (cap : Nat) : Value := match ro with
 |none => .tuple #[]
 |some n => .slice a n cap
def roP (ro : Option Nat) (k g : Nat) : PV := match ro with
 |none => .tup []
 |some n => .als k g 0 n
variable [Globs]
theorem sm_inplace {α : Type} {enc : α → List PV} {l : List α} {d k g m sz kd f : Nat} {T ty : TypeId} {pos : String} {af : Array Edge} {x fop : Operand} {more : List Operand} {mv : List FuncId} {tys : Array TypeId} {K : St → Prop} (ro : Option Nat) (Q : List α → Prop)
  (hpl : ∀ x,(enc x).all plain1 = true) (hlen : ∀ x,(enc x).length = sz) (hsz : 0 < sz) (hf : s.ev fop = .clo f []) (hx : s.ev x = .als k g 0 m) (hm : m = l.length) (ho : s.own k = (g,some ⟨T,sz,l.map enc,kd⟩)) (hmore : more.map s.ev = mv.map fun f => .clo f []) (hcal : callable P f) (hro : ∀ n,ro = some n → n ≤ l.length)
  (h0 : l = [] → Q [] ∧ ∀ w : World,Globs.glob w → Calls P f (Value.slice none 0 0 :: mv.map fun f => .func (.func f) #[] #[]).toArray w fun e w' => e = .returned (roV ro none 0) ∧ Below w.heap.size w w')
  (hcall : ∀ (w : World) (b cap : Nat) (cur : Array Value),w.heap[b]? = some (.cells cur T (0,0)) → l.length ≤ cap → l.length * sz ≤ cur.size → cur.toList.take (l.length * sz) = flatV enc l → Globs.glob w →
   Calls P f (Value.slice (some ⟨b,0,none⟩) l.length cap :: mv.map fun f => .func (.func f) #[] #[]).toArray w fun e w' => ∃ l' cur',Q l' ∧ l'.length = l.length ∧ e = .returned (roV ro (some ⟨b,0,none⟩) cap) ∧ Chg w w' b T cur' ∧ cur'.size = cur.size ∧ cur'.toList.take (l.length * sz) = flatV enc l')
  (h : ∀ l',Q l' → l'.length = l.length → K ((s.setOwn k g (some ⟨T,sz,l'.map enc,kd⟩)).putR d (roP ro k g))) : Sm P L s ⟨some d,.call ⟨.value fop,(x :: more).toArray,tys⟩,ty,pos,af,none⟩ K := by
 intro C a w Qp hG hs hN
 obtain ⟨γ,hs⟩ := hs
 have hfv := hs.ev fop
 rw [hf] at hfv
 obtain ⟨vs,hv,hl,_⟩ := hfv.clo_inv
 have hvs : vs = [] := List.eq_nil_of_length_eq_zero (by simpa using hl.symm)
 subst hvs
 have hmv : more.map a.eval = mv.map fun f => Value.func (.func f) #[] #[] := by
  clear h0 hcall h
  induction more generalizing mv with
  |nil => cases mv with
   |nil => rfl
   |cons f mv => simp at hmore
  |cons y more ih => cases mv with
   |nil => simp at hmore
   |cons f mv =>
    simp only [List.map_cons,List.cons.injEq] at hmore ⊢
    have hy := hs.ev y
    rw [hmore.1] at hy
    obtain ⟨vs,hv,hl,_⟩ := hy.clo_inv
    have hvs : vs = [] := List.eq_nil_of_length_eq_zero (by simpa using hl.symm)
    subst hvs
    exact ⟨hv,ih hmore.2 hN⟩
 have hxr := hs.ev x
 rw [hx] at hxr
 have hals := hs.als_at hxr ho
 unfold Oper.wp
 rw [run_call (f := f) rfl hv hcal,Oper.upon_enter]
 simp only [List.map_cons,List.append_nil,hmv]
 have hglob := hG.glob _ hs.below
 rcases hals with ⟨h1,_,h3,h4⟩ | ⟨b,cap,cur,h1,h2,h3,h4,h5,h6,h7⟩
 ·have hnil : l = [] := List.eq_nil_of_length_eq_zero (by omega)
  rw [h4]
  refine ((h0 hnil).2 w hglob).mono ?_
  rintro e w' ⟨rfl,hbel⟩
  have hs' := hs.ext hbel
  have hst : s = s.setOwn k g (some ⟨T,sz,l.map enc,kd⟩) := by
   have : s.own = (s.setOwn k g (some ⟨T,sz,l.map enc,kd⟩)).own := by
    funext r
    by_cases hr : r = k
    ·subst hr;rw [setOwn_same,ho]
    ·rw [setOwn_ne hr]
   cases s
   simp only [St.setOwn] at this ⊢
   rw [← this]
  have hKs := h [] (h0 hnil).1 (by rw [hnil])
  rw [hnil] at hst
  rw [← hst] at hKs
  refine ⟨_,⟨γ,hs'.put (d := some d) hN ?_⟩,hKs⟩
  cases ro with
  |none => exact .tup [] [] rfl fun i c v e => by simp at e
  |some n =>
   have hn := hro n rfl
   rw [hnil] at hn
   have hn0 : n = 0 := by simpa using hn
   subst hn0
   refine .als (by simp [envOf,ho]) fun _ l2 hl2 => ?_
   simp only [envOf,ho,Option.map_some,Option.some.injEq] at hl2
   subst hl2
   exact .inl ⟨h1,rfl,rfl,rfl⟩
 ·subst hm
  rw [h2]
  simp only [Nat.zero_mul]
  have h3 : w.heap[b]? = some (.cells cur T (0,0)) := h3
  have hz : (0 + cap) * sz = cap * sz := by rw [Nat.zero_add]
  have hcs : cur.size = cap * sz := by rw [← hz];exact h6
  have hle : l.length * sz ≤ cur.size := by rw [hcs];exact Nat.mul_le_mul_right _ h4
  obtain ⟨cur0,g1,_,_,g4,g5⟩ := hs.site_at ho h1 hsz
  have g1 : w.heap[b]? = some (.cells cur0 T (0,0)) := g1
  rw [h3] at g1
  simp only [Option.some.injEq,Obj.cells.injEq,and_true] at g1
  subst g1
  have hflat : cur.toList.take (l.length * sz) = flatV enc l := by
   apply List.ext_getElem?
   intro q
   by_cases hq : q < l.length * sz
   ·have hqi : q / sz < l.length := (Nat.div_lt_iff_lt_mul hsz).2 hq
    have hqj : q % sz < sz := Nat.mod_lt _ hsz
    have hqe : q / sz * sz + q % sz = q := by rw [Nat.mul_comm];exact Nat.div_add_mod q sz
    have hx1 : l[q / sz]? = some l[q / sz] := List.getElem?_eq_getElem hqi
    have hx2 : (enc l[q / sz])[q % sz]? = some ((enc l[q / sz])[q % sz]'(by rw [hlen];exact hqj)) := List.getElem?_eq_getElem _
    obtain ⟨v,e1,_,e3⟩ := g5 (q / sz) (q % sz) (enc l[q / sz]) _ (by rw [List.getElem?_map,hx1];rfl) hx2
    have hpv := List.all_eq_true.1 (hpl l[q / sz]) _ (List.mem_of_getElem? hx2)
    have hv := plain_val hpv (e3.rep envOf_okfok)
    have := flatV_at hlen l (q / sz) (q % sz) _ _ hx1 hx2
    rw [hqe] at this e1
    rw [this,List.getElem?_take,if_pos hq,Array.getElem?_toList,e1,hv]
   ·rw [List.getElem?_take,if_neg hq,List.getElem?_eq_none (by rw [flatV_len hlen];omega)]
  refine (hcall w b cap cur h3 h4 hle hflat hglob).mono ?_
  rintro e w' ⟨l',cur',hQ,hl',rfl,hchg,hcz,hfl⟩
  have hsite : SiteOk (envOf C γ (s.setOwn k g (some ⟨T,sz,l'.map enc,kd⟩)) (w.setRow b cur')) (some b) ⟨T,sz,l'.map enc,kd⟩ := by
   refine ⟨(fun e => by cases e),(fun b' _ hz => by simp only at hz;omega),(fun b' _ hz => by simp only at hz;omega),fun b' hb' _ => ?_⟩
   simp at hb';subst hb'
   refine ⟨cur',setRow_heap w b cur cur' T (0,0) h3,hsz,by simp only [List.length_map];rw [hl',hcz];exact hle,fun row hr => ?_,fun i j row pv e1 e2 => ?_⟩
   ·simp only [List.mem_map] at hr
    obtain ⟨y,_,rfl⟩ := hr
    exact hlen y
   ·simp only [List.getElem?_map,Option.map_eq_some_iff] at e1
    obtain ⟨y,hy,rfl⟩ := e1
    have hpv := List.all_eq_true.1 (hpl y) _ (List.mem_of_getElem? e2)
    have := take_at hfl (flatV_at hlen l' i j y pv hy e2)
    exact ⟨scv pv,by rw [← Array.getElem?_toList];exact this,(plain_drep hpv w (fun _ => True)).2,plain_krep hpv⟩
  have hsim := chg_sim (c' := ⟨T,sz,l'.map enc,kd⟩) hs ho h1 h3 hcz hchg rfl rfl (by simp [hl']) hsite
  refine ⟨_,⟨γ,hsim.put (d := some d) hN ?_⟩,h l' hQ hl'⟩
  cases ro with
  |none => exact .tup [] [] rfl fun i c v e => by simp at e
  |some n =>
   have hn := hro n rfl
   refine .als (by simp [envOf,setOwn_same]) fun _ l2 hl2 => ?_
   simp only [envOf,setOwn_same,Option.map_some,Option.some.injEq] at hl2
   subst hl2
   exact .inr ⟨b,cap,cur',h1,by simp [roV],hchg.at_,by omega,h5,by rw [hcz];exact h6,by simp;omega⟩
end
end Go.Pv


namespace Go.Proofs
open Go.Shelf
def Tryz.lays189_ren : Go.Shelf.Ren := ⟨fun | 189 => 179 | 125 => 197 | 257 => 196 | 128 => 216 | 129 => 217 | 294 => 207 | 295 => 208 | 296 => 209 | 297 => 210 | 298 => 211 | 299 => 212 | 216 => 213 | 300 => 214 | 301 => 215 | 328 => 220 | 329 => 221 | 330 => 222 | 331 => 223 | 332 => 224 | 215 => 225 | 343 => 228 | n => n,fun | 28 => 86 | 3 => 3 | 46 => 192 | 0 => 0 | 51 => 218 | 53 => 170 | 4 => 4 | 183 => 223 | 182 => 222 | 131 => 228 | 5 => 5 | 9 => 9 | 218 => 233 | 222 => 237 | 228 => 241 | 229 => 242 | n => n,fun | n => n⟩
theorem Tryz.lays189 : Go.Proofs.Lays.n189 Tryz.prog Tryz.lays189_ren := {
 mixed := by kernel_rfl
 f125 := Tryz.func197.trans (congrArg some (by kernel_rfl))
 f128 := Tryz.func216.trans (congrArg some (by kernel_rfl))
 f129 := Tryz.func217.trans (congrArg some (by kernel_rfl))
 f189 := Tryz.func179.trans (congrArg some (by kernel_rfl))
 f215 := Tryz.func225.trans (congrArg some (by kernel_rfl))
 f216 := Tryz.func213.trans (congrArg some (by kernel_rfl))
 f257 := Tryz.func196.trans (congrArg some (by kernel_rfl))
 f294 := Tryz.func207.trans (congrArg some (by kernel_rfl))
 f295 := Tryz.func208.trans (congrArg some (by kernel_rfl))
 f296 := Tryz.func209.trans (congrArg some (by kernel_rfl))
 f297 := Tryz.func210.trans (congrArg some (by kernel_rfl))
 f298 := Tryz.func211.trans (congrArg some (by kernel_rfl))
 f299 := Tryz.func212.trans (congrArg some (by kernel_rfl))
 f300 := Tryz.func214.trans (congrArg some (by kernel_rfl))
 f301 := Tryz.func215.trans (congrArg some (by kernel_rfl))
 f328 := Tryz.func220.trans (congrArg some (by kernel_rfl))
 f329 := Tryz.func221.trans (congrArg some (by kernel_rfl))
 f330 := Tryz.func222.trans (congrArg some (by kernel_rfl))
 f331 := Tryz.func223.trans (congrArg some (by kernel_rfl))
 f332 := Tryz.func224.trans (congrArg some (by kernel_rfl))
 f343 := Tryz.func228.trans (congrArg some (by kernel_rfl))
 t0 := Tryz.underlying0
 a0 := Tryz.isAgg0
 z0 := Tryz.sizeOf0
 v0 := Tryz.zeroValue0
 t3 := Tryz.underlying3
 a3 := Tryz.isAgg3
 z3 := Tryz.sizeOf3
 v3 := Tryz.zeroValue3
 t4 := Tryz.underlying4
 a4 := Tryz.isAgg4
 z4 := Tryz.sizeOf4
 v4 := Tryz.zeroValue4
 t5 := Tryz.underlying5
 a5 := Tryz.isAgg5
 z5 := Tryz.sizeOf5
 v5 := Tryz.zeroValue5
 t9 := Tryz.underlying9
 a9 := Tryz.isAgg9
 z9 := Tryz.sizeOf9
 v9 := Tryz.zeroValue9
 t28 := Tryz.underlying86
 a28 := Tryz.isAgg86
 z28 := Tryz.sizeOf86
 v28 := Tryz.zeroValue86
 t46 := Tryz.underlying192
 a46 := Tryz.isAgg192
 z46 := Tryz.sizeOf192
 v46 := Tryz.zeroValue192
 t51 := Tryz.underlying218
 a51 := Tryz.isAgg218
 z51 := Tryz.sizeOf218
 v51 := Tryz.zeroValue218
 t53 := Tryz.underlying170
 a53 := Tryz.isAgg170
 z53 := Tryz.sizeOf170
 v53 := Tryz.zeroValue170
 t131 := Tryz.underlying228
 a131 := Tryz.isAgg228
 z131 := Tryz.sizeOf228
 v131 := Tryz.zeroValue228
 t182 := Tryz.underlying222
 a182 := Tryz.isAgg222
 z182 := Tryz.sizeOf222
 v182 := Tryz.zeroValue222
 t183 := Tryz.underlying223
 a183 := Tryz.isAgg223
 z183 := Tryz.sizeOf223
 v183 := Tryz.zeroValue223
 t218 := Tryz.underlying233
 a218 := Tryz.isAgg233
 z218 := Tryz.sizeOf233
 v218 := Tryz.zeroValue233
 t222 := Tryz.underlying237
 a222 := Tryz.isAgg237
 z222 := Tryz.sizeOf237
 v222 := Tryz.zeroValue237
 t228 := Tryz.underlying241
 a228 := Tryz.isAgg241
 z228 := Tryz.sizeOf241
 v228 := Tryz.zeroValue241
 t229 := Tryz.underlying242
 a229 := Tryz.isAgg242
 z229 := Tryz.sizeOf242
 v229 := Tryz.zeroValue242 }
open Go.Sort Go.RowKit in
theorem Tryz.slices_Sort_int (blk off cap : Nat) (zs : List Int) (w : World) (hH : Holds (Value.int .i64) w blk off zs.toArray) (hblk : blk < w.heap.size) (hsz : zs.length < 4611686018427387904) :
  Calls Tryz.prog 179 #[.slice (some ⟨blk,off,none⟩) zs.length cap] w fun e w' =>
   e = .returned (.tuple #[]) ∧ ∃ n os,w' = grow (putRow (Value.int .i64) (Sort.ahead w n) blk off (zs.mergeSort fun x y => decide (x ≤ y)).toArray) os := Any.slices_Sort_int Tryz.lays189 blk off cap zs w hH hblk hsz
def Tryz.laysNm220_ren : Go.Shelf.Ren := ⟨fun | 20 => 180 | n => n,fun | 22 => 86 | 3 => 3 | 4 => 4 | 0 => 0 | n => n,fun | n => n⟩
theorem Tryz.laysNm220 : Go.Proofs.Lays2.n20 Tryz.prog Tryz.laysNm220_ren := {
 mixed := by kernel_rfl
 f20 := Tryz.func180.trans (congrArg some (by kernel_rfl))
 t0 := Tryz.underlying0
 a0 := Tryz.isAgg0
 z0 := Tryz.sizeOf0
 v0 := Tryz.zeroValue0
 t3 := Tryz.underlying3
 a3 := Tryz.isAgg3
 z3 := Tryz.sizeOf3
 v3 := Tryz.zeroValue3
 t4 := Tryz.underlying4
 a4 := Tryz.isAgg4
 z4 := Tryz.sizeOf4
 v4 := Tryz.zeroValue4
 t22 := Tryz.underlying86
 a22 := Tryz.isAgg86
 z22 := Tryz.sizeOf86
 v22 := Tryz.zeroValue86
 i3 := by kernel_rfl }
open Go.RowKit Go.Lib Go.Sort in
theorem Tryz.slices_Compact_int (blk off cap : Nat) (zs : List Int) (w : World) (hH : Holds (Value.int .i64) w blk off zs.toArray) (hsz : zs.length ≤ 9223372036854775807) (hcap : zs.length ≤ cap) :
  Calls Tryz.prog 180 #[.slice (some ⟨blk,off,none⟩) zs.length cap] w fun e w' => e = .returned (.slice (some ⟨blk,off,none⟩) (Lib.compact zs).length cap) ∧ ∃ q,w' = putRow (Value.int .i64) (Sort.ahead w q) blk off (Lib.compact zs ++ List.replicate (zs.length - (Lib.compact zs).length) 0).toArray := Any.slices_Compact_int Tryz.laysNm220 blk off cap zs w hH hsz hcap
open Go.RowKit Go.Lib Go.Sort in
theorem Tryz.slices_Compact_int_empty (a : Option Addr) (cap : Nat) (w : World) :
  Calls Tryz.prog 180 #[.slice a 0 cap] w fun e w' => e = .returned (.slice a 0 cap) ∧ w' = w := Any.slices_Compact_int_empty Tryz.laysNm220 a cap w
open Go.RowKit Go.Sort in
theorem Tryz.slices_Sort_int_none (p : Option Addr) (cap : Nat) (w : World) :
  Calls Tryz.prog 179 #[.slice p 0 cap] w fun e w' => e = .returned (.tuple #[]) ∧ w' = w := Any.slices_Sort_int_none Tryz.lays189 p cap w
end Go.Proofs


set_option maxHeartbeats 2000000
namespace Go.Pv
attribute [local irreducible] PWP POps PQuiet PSem XThen XBlock RetPost InlPost
open Go.Proofs Go.RowKit Go.Sort
theorem Sim.cutS {C : Ctx} {γ : Nat → Option Nat} {s : St} {a : Act} {w : World} (h : Sim C γ s a w) {k g n : Nat} {c : Cont} (ho : s.own k = (g,some c)) (hz : 0 < c.sz) : Sim C γ (s.setOwn k (g + 1) (some ⟨c.ty,c.sz,c.rows.take n,c.kind⟩)) a w := by
 have hown : ∀ k' c'',((s.setOwn k (g + 1) (some ⟨c.ty,c.sz,c.rows.take n,c.kind⟩)).own k').2 = some c'' → ∃ c3,(s.own k').2 = some c3 := by
  intro k' c'' hc
  by_cases hk : k' = k
  ·subst hk;exact ⟨c,by rw [ho]⟩
  ·rw [setOwn_ne hk] at hc;exact ⟨c'',hc⟩
 have hok : ∀ b',okOf C γ s w b' → okOf C γ (s.setOwn k (g + 1) (some ⟨c.ty,c.sz,c.rows.take n,c.kind⟩)) w b' := by
  rintro b' ⟨f1,f2,f3⟩
  exact ⟨f1,f2,fun k' c'' hc => let ⟨c3,hc3⟩ := hown k' c'' hc;f3 k' c3 hc3⟩
 have hle : (envOf C γ s w).Le (envOf C γ (s.setOwn k (g + 1) (some ⟨c.ty,c.sz,c.rows.take n,c.kind⟩)) w) := by
  refine ⟨hok,fun b' hb' => ⟨hb'.1,hok b' hb'.2⟩,fun b' hb' => hb'.2,fun b' _ => rfl,fun k' => ?_,fun k' l' hg hl => ?_,fun k' l' b' cur'' _ hl hb' hh' => ⟨cur'',hh',rfl⟩⟩
  ·show (s.own k').1 ≤ ((s.setOwn k (g + 1) _).own k').1
   by_cases hk : k' = k
   ·subst hk;rw [setOwn_same,ho];exact Nat.le_succ _
   ·rw [setOwn_ne hk];exact Nat.le_refl _
  ·by_cases hk : k' = k
   ·subst hk
    have : ((s.setOwn k' (g + 1) (some ⟨c.ty,c.sz,c.rows.take n,c.kind⟩)).own k').1 = (s.own k').1 := hg
    rw [setOwn_same,ho] at this
    simp at this
   ·simp only [envOf,setOwn_ne hk] at hl
    exact ⟨l',hl,rfl,rfl,rfl,Nat.le_refl _⟩
 refine ⟨h.defers,h.size,fun r => (h.regs r).mono hle,fun k' c'' hc => ?_,fun k1 k2 c1 c2 b' e1 e2 e3 e4 => ?_,fun k' c'' b' e1 e2 => ?_,h.below,h.top,fun c v hk => (h.kept c v hk).mono hle⟩
 ·by_cases hk : k' = k
  ·subst hk
   rw [setOwn_same] at hc
   simp at hc;subst hc
   have hs := h.sites k' c (by rw [ho])
   refine ⟨fun hb => by simp [hs.emp hb],(fun b' _ hz' => by simp only at hz';omega),(fun b' _ hz' => by simp only at hz';omega),fun b' hb' _ => ?_⟩
   obtain ⟨cur,h1,h2,h3,h4,h5⟩ := hs.at_ b' hb' hz
   refine ⟨cur,h1,h2,?_,fun row hr => h4 row (List.mem_of_mem_take hr),fun i j row pv e1 e2 => ?_⟩
   ·simp only [List.length_take]
    exact Nat.le_trans (Nat.mul_le_mul_right _ (Nat.min_le_right _ _)) h3
   ·simp only [List.getElem?_take] at e1
    split at e1
    ·obtain ⟨v,f1,f2,f3⟩ := h5 i j row pv e1 e2
     exact ⟨v,f1,f2,f3.mono hle⟩
    ·cases e1
  ·rw [setOwn_ne hk] at hc
   exact (h.sites k' c'' hc).mono hle fun b' hb' => rfl
 ·obtain ⟨d1,f1⟩ := hown k1 c1 e1
  obtain ⟨d2,f2⟩ := hown k2 c2 e2
  exact h.inj k1 k2 d1 d2 b' f1 f2 e3 e4
 ·obtain ⟨d1,f1⟩ := hown k' c'' e1
  exact h.base k' d1 b' f1 e2
theorem Ghost.cut {s : St} {k g t n sz kd : Nat} {T : TypeId} {rows : List (List PV)} (ho : s.own k = (g,some ⟨T,sz,rows,kd⟩)) (hr : s.reg t = .als k g 0 n) (hn : n ≤ rows.length) (hz : Nat.blt 0 sz = true) :
  Ghost s ((s.setOwn k (g + 1) (some ⟨T,sz,rows.take n,kd⟩)).putR t (.als k (g + 1) 0 n)) := by
 intro C a w hX ⟨γ,h⟩
 have hz : 0 < sz := by simpa using hz
 have h' := h.cutS (n := n) ho hz
 have hals := h.als_at (by rw [← hr];exact h.regs t) ho
 refine ⟨γ,h'.defers,h'.size,fun r => ?_,h'.sites,h'.inj,h'.base,h'.below,h'.top,h'.kept⟩
 show Rep (envOf C γ (s.setOwn k (g + 1) (some ⟨T,sz,rows.take n,kd⟩)) w) (bif Nat.beq r t then _ else _) _
 by_cases hrt : r = t
 ·subst hrt
  rw [Nat.beq_refl,cond_true]
  refine .als (by simp [envOf,setOwn_same]) fun _ l hl => ?_
  simp only [envOf,setOwn_same,Option.map_some,Option.some.injEq] at hl
  subst hl
  rcases hals with ⟨h1,h2,h3,h4⟩ | ⟨b,cap,cur,h1,h2,h3,h4,h5,h6,h7⟩
  ·exact .inl ⟨h1,h2,h3,h4⟩
  ·exact .inr ⟨b,cap,cur,h1,h2,h3,h4,h5,h6,by simp;omega⟩
 ·rw [nbeq_ne hrt,cond_false]
  exact h'.regs r
def sortN (l : List Int) : List Int := l.mergeSort fun x y => decide (x ≤ y)
def padN (l : List Int) : List Int := Lib.compact l ++ List.replicate (l.length - (Lib.compact l).length) 0
theorem eN_plain (x : Int) : (eN x).all plain1 = true := rfl
theorem holds_ints {w : World} {b : Nat} {T : TypeId} {cur : Array Value} {l : List Int} (hh : w.heap[b]? = some (.cells cur T (0,0))) (hc : cur.toList.take (l.length * 1) = flatV eN l) : Holds (Value.int .i64) w b 0 l.toArray := fun j hj => by
 have hj' : j < l.length := by simpa using hj
 have hx : l[j]? = some l[j] := List.getElem?_eq_getElem hj'
 have h1 := take_at hc (flatV_at (sz := 1) (fun _ => rfl) l j 0 l[j] (I l[j]) hx rfl)
 rw [Nat.mul_one,Nat.add_zero] at h1
 refine ⟨?_,frozen_of_row w b _ cur T hh⟩
 rw [cell_of_cells hh,Nat.zero_add,← Array.getElem?_toList,h1]
 simp [hj',scv]
theorem flat_ints (l : List Int) : flatV eN l = l.map (Value.int .i64) := by
 induction l with
 |nil => rfl
 |cons x l ih => rw [flatV,List.flatMap_cons,List.map_cons,← ih];rfl
theorem call179 : callable Tryz.prog 179 := ⟨_,Go.Proofs.Tryz.func179,by decide,rfl⟩
theorem call180 : callable Tryz.prog 180 := ⟨_,Go.Proofs.Tryz.func180,by decide,rfl⟩
section
variable {C : Ctx} {s : St} {d k g m kd : Nat} {ty : TypeId} {pos : String} {af : Array Edge} {x : Operand} {tys : Array TypeId} {K : St → Prop}
set_option maxRecDepth 20000 in
theorem sortI_sm (l : List Int) (hl : l.length ≤ 1000000) (hx : s.ev x = .als k g 0 m) (hm : m = l.length) (ho : s.own k = (g,some ⟨3,1,l.map eN,kd⟩))
  (h : K ((s.setOwn k g (some ⟨3,1,(sortN l).map eN,kd⟩)).putR d (.tup []))) : Sm Tryz.prog lay.get s ⟨some d,.call ⟨.value (.func 179),#[x],tys⟩,ty,pos,af,none⟩ K := by
 refine sm_inplace (enc := eN) (l := l) (sz := 1) (more := []) (mv := []) none (fun l' => l' = sortN l) eN_plain (fun _ => rfl) (by decide) rfl hx hm ho rfl call179 (fun n h => by cases h) (fun hl0 => ?_) (fun w b cap cur hh h1 h2 hc hg => ?_) (fun l' hQ _ => ?_)
 ·subst hl0
  refine ⟨by simp [sortN],fun w _ => (Tryz.slices_Sort_int_none none 0 w).mono ?_⟩
  rintro e w' ⟨rfl,rfl⟩
  exact ⟨rfl,Below.refl _ _⟩
 ·have hb : b < w.heap.size := (Array.getElem?_eq_some_iff.1 hh).1
  refine (Tryz.slices_Sort_int b 0 cap l w (holds_ints hh hc) hb (by omega)).mono ?_
  rintro e w' ⟨rfl,n,os,hw⟩
  have hlen : (sortN l).length = l.length := by simp [sortN]
  have hchg := chg_put (T := 3) hh hw
  refine ⟨sortN l,_,rfl,hlen,rfl,hchg,putCells_size _ _ _ _,?_⟩
  have := putCells_take (Value.int .i64) (sortN l).toArray cur (by simp [hlen];omega)
  rw [List.size_toArray,hlen] at this
  rw [Nat.mul_one,flat_ints]
  exact this
 ·subst hQ;exact h
theorem compactI_len (l : List Int) : (Lib.compact l).length ≤ l.length := by
 rw [Lib.compact,Lib.compactUpTo,List.length_map]
 exact Nat.le_trans (List.length_filter_le _ _) (by simp)
theorem padN_len (l : List Int) : (padN l).length = l.length := by
 have := compactI_len l
 simp [padN];omega
set_option maxRecDepth 20000 in
theorem compactI_sm (l : List Int) (hl : l.length ≤ 1000000) (hx : s.ev x = .als k g 0 m) (hm : m = l.length) (ho : s.own k = (g,some ⟨3,1,l.map eN,kd⟩))
  (h : K ((s.setOwn k g (some ⟨3,1,(padN l).map eN,kd⟩)).putR d (.als k g 0 (Lib.compact l).length))) : Sm Tryz.prog lay.get s ⟨some d,.call ⟨.value (.func 180),#[x],tys⟩,ty,pos,af,none⟩ K := by
 refine sm_inplace (enc := eN) (l := l) (sz := 1) (more := []) (mv := []) (some (Lib.compact l).length) (fun l' => l' = padN l) eN_plain (fun _ => rfl) (by decide) rfl hx hm ho rfl call180 (fun n h => by cases h;exact compactI_len l) (fun hl0 => ?_) (fun w b cap cur hh h1 h2 hc hg => ?_) (fun l' hQ _ => ?_)
 ·subst hl0
  refine ⟨rfl,fun w _ => (Tryz.slices_Compact_int_empty none 0 w).mono ?_⟩
  rintro e w' ⟨rfl,rfl⟩
  exact ⟨rfl,Below.refl _ _⟩
 ·refine (Tryz.slices_Compact_int b 0 cap l w (holds_ints hh hc) (by omega) h1).mono ?_
  rintro e w' ⟨rfl,q,hw⟩
  have hchg := chg_put (T := 3) hh (hw.trans (Go.Sort.grow_empty _).symm)
  refine ⟨padN l,_,rfl,padN_len l,rfl,hchg,putCells_size _ _ _ _,?_⟩
  have := putCells_take (Value.int .i64) (padN l).toArray cur (by simp [padN_len];omega)
  rw [List.size_toArray,padN_len] at this
  rw [Nat.mul_one,flat_ints]
  exact this
 ·subst hQ;exact h
end
end Go.Pv


set_option maxHeartbeats 2000000
namespace Go.Pv
attribute [local irreducible] PWP POps PQuiet PSem XThen XBlock RetPost InlPost
open Go.Proofs
def placesL (l : List SR) : List Int := Lib.compact (sortN (l.map (·.x)))
set_option maxRecDepth 20000 in
theorem places_ret (l : List SR) (hl : LimL l) (h12 : l.length ≤ 1000) : Ret Tryz.prog .shared 151 [.sl (l.map eS)] (.sl ((placesL l).map eN)) := by
 have hml : (l.map eS).length = l.length := by simp
 have hrows : ∀ (k : Nat) x,l[k]? = some x → ((l.take (k + 1)).map (·.x)).map eN = ((l.take k).map (·.x)).map eN ++ [eN x.x] := fun k x hx => by rw [take_snoc hx,List.map_append,List.map_append];rfl
 refine Ret.of_pwp layOk mixed Go.Proofs.Tryz.func151 rfl (by decide) rfl rfl ?_
 ((repeat (first | refine ps_nil ?_ | refine pq_nil ?_ | refine x_norm ?_ | refine pw_seq ?_));refine pw_region ?_)
 refine ps_v rfl trivial ?_
 ((repeat (first | refine ps_nil ?_ | refine pq_nil ?_ | refine x_norm ?_ | refine pw_seq ?_));refine pw_region ?_)
 (first | refine ps_run (o_nilm 3 1 0 rfl rfl ?_) | refine ps_run (o_nila 3 1 0 rfl rfl ?_))
 repeat refine stq rfl ?_
 refine pw_loop (fun k => k ≤ l.length) (fun k => [(3,.als 3 (k + 1) 0 (((l.take k).map (·.x)).map eN).length),(6,.sl (l.map eS)),(7,I l.length),(8,I k)]) (fun k => [(3,k + 1,⟨3,1,((l.take k).map (·.x)).map eN,0⟩)]) (fun k => l.length - k) 0 (Nat.zero_le _) ⟨rfl,rfl,by rw [← hml];rfl,rfl,rfl,trivial⟩ ?_
 intro k s hk
 repeat refine stq rfl ?_
 refine pw_cond rfl (fun h => ?_) (fun h => ?_)
 ·have hlt : k < l.length := by have := of_decide_eq_true h;omega
  clear h
  obtain ⟨x,hx⟩ := get_lt hlt
  have hw : IntKind.i64.wrap (((k : Nat) : Int) + 1) = ((k + 1 : Nat) : Int) := by rw [wrap_i64 (by omega) (by omega)];omega
  repeat refine stq rfl ?_
  refine qst rfl rfl (q_idxm rfl rfl rfl rfl rfl (by omega) hx rfl) ?_
  repeat refine stq rfl ?_
  refine ps_run (o_slit 0 rfl rfl rfl rfl rfl rfl rfl rfl rfl rfl rfl (by repeat' constructor) rfl ?_)
  repeat refine stq rfl ?_
  refine ps_run (o_app 0 rfl rfl rfl rfl rfl rfl rfl rfl rfl rfl rfl (by repeat' constructor) (by intro row hr;first | (simp at hr;subst hr;rfl) | simp at hr) rfl rfl (by simp;omega) (by simp;omega) ?_)
  repeat refine stq rfl ?_
  refine ⟨k + 1,hlt,by omega,?_,rfl,rfl,congrArg I hw,?_,trivial⟩
  ·rw [hrows k x hx];rfl
  ·rw [hrows k x hx];rfl
 ·have hge : k = l.length := by have := of_decide_eq_false h;omega
  subst hge
  clear h
  rw [List.take_length]
  have hal : (l.map (·.x)).length ≤ 1000000 := by simp;omega
  generalize hX : l.map (·.x) = X at *
  have hsl : (sortN X).length ≤ 1000000 := by rw [sortN,List.length_mergeSort];exact hal
  ((repeat ((fail_if_success (with_reducible refine pw_at 7 ?_));refine stx rfl ?_));refine pw_regionS 1 ?_)
  refine stq rfl ?_
  refine ps_nil ?_
  refine psem_sm rfl (sortI_sm X hal rfl (by simp) rfl ?_)
  refine psem_ops ?_
  ((repeat ((fail_if_success (with_reducible refine pw_at 8 ?_));refine stx rfl ?_));refine pw_regionS 1 ?_)
  refine stq rfl ?_
  refine ps_nil ?_
  refine psem_sm rfl (compactI_sm (sortN X) hsl rfl (by simp [sortN]) rfl ?_)
  refine psem_ops ?_
  refine ps_v rfl trivial ?_
  refine ps_nil ?_
  refine x_norm ?_
  refine pw_ghost (Ghost.cut (k := 3) (t := 2) (rows := (padN (sortN X)).map eN) rfl rfl (by rw [List.length_map,padN_len];exact compactI_len _) rfl) ?_
  have hc : ((padN (sortN X)).map eN).take (Lib.compact (sortN X)).length = (placesL l).map eN := by
   rw [← List.map_take,padN,List.take_left,placesL,hX]
  have hcl : (Lib.compact (sortN X)).length = (placesL l).length := by rw [placesL,hX]
  rw [hc]
  repeat refine stq rfl ?_
  exact end1 rfl rfl rfl ⟨rfl,rfl,by show _ = (List.map eN (placesL l)).length;rw [List.length_map,hcl]⟩ rfl
theorem places_mem {l : List SR} {x : Int} (h : x ∈ placesL l) : ∃ s ∈ l,s.x = x := by
 have h1 : x ∈ sortN (l.map (·.x)) := by
  rw [placesL,Lib.compact,Lib.compactUpTo] at h
  obtain ⟨i,hi,rfl⟩ := List.mem_map.1 h
  have hi := (List.mem_filter.1 hi).1
  have hi : i < (sortN (l.map (·.x))).length := by simpa using hi
  have e : (sortN (l.map (·.x))).toArray[i]! = (sortN (l.map (·.x)))[i] := by simp [hi]
  rw [e]
  exact List.getElem_mem hi
 rw [sortN,List.mem_mergeSort] at h1
 obtain ⟨s,hs,rfl⟩ := List.mem_map.1 h1
 exact ⟨s,hs,rfl⟩
theorem place_range {l : List SR} (hc : checkL l = 0) {x : Int} (h : x ∈ placesL l) : -1000000 ≤ x ∧ x ≤ 1000000 := by
 obtain ⟨s,hs,rfl⟩ := places_mem h
 rw [checkL] at hc
 split at hc
 ·omega
 ·have := firstE_all hc s hs
  rw [supE] at this
  split at this
  ·omega
  ·rename_i h1
   omega
theorem places_len (l : List SR) : (placesL l).length ≤ l.length := by
 have := compactI_len (sortN (l.map (·.x)))
 rw [placesL]
 simp [sortN] at this ⊢
 exact this
def upA (x : Int) : AR := ⟨ofQ ((-x : Int) : Rat),ofQ ((1 : Int) : Rat)⟩
def dnA (x : Int) : AR := ⟨ofQ (x : Rat),ofQ ((-1 : Int) : Rat)⟩
def turnA (l : List SR) : List AR := (placesL l).map upA ++ (placesL l).map dnA
set_option maxRecDepth 20000 in
theorem turning_ret (l : List SR) (hl : LimL l) (h12 : l.length ≤ 1000) (hck : checkL l = 0) : Ret Tryz.prog .shared 94 [.sl (l.map eS)] (.sl ((turnA l).map eA)) := by
 have hp := places_ret l hl h12
 have hrg : ∀ x ∈ placesL l,-1000000 ≤ x ∧ x ≤ 1000000 := fun x hx => place_range hck hx
 have hpl := places_len l
 have w1 := wholeF 1 ⟨by decide,by decide⟩
 have w2 := wholeF (-1) ⟨by decide,by decide⟩
 rw [turnA]
 generalize placesL l = Pl at *
 have hml : (Pl.map eN).length = Pl.length := by simp
 have hrows : ∀ (k : Nat) x,Pl[k]? = some x → ((Pl.take (k + 1)).map upA).map eA = ((Pl.take k).map upA).map eA ++ [eA (upA x)] := fun k x hx => by rw [take_snoc hx,List.map_append,List.map_append];rfl
 have hrows2 : ∀ (k : Nat) x,Pl[k]? = some x → (Pl.map upA ++ (Pl.take (k + 1)).map dnA).map eA = (Pl.map upA ++ (Pl.take k).map dnA).map eA ++ [eA (dnA x)] := fun k x hx => by rw [take_snoc hx];simp [List.map_append]
 refine Ret.of_pwp layOk mixed Go.Proofs.Tryz.func94 rfl (by decide) rfl rfl ?_
 ((repeat (first | refine ps_nil ?_ | refine pq_nil ?_ | refine x_norm ?_ | refine pw_seq ?_));refine pw_region ?_)
 refine ps_v rfl trivial ?_
 ((repeat (first | refine ps_nil ?_ | refine pq_nil ?_ | refine x_norm ?_ | refine pw_seq ?_));refine pw_region ?_)
 (first | refine ps_run (o_nilm 62 8 1 rfl rfl ?_) | refine ps_run (o_nila 62 8 1 rfl rfl ?_))
 repeat refine stq rfl ?_
 refine qst rfl rfl (q_cs rfl hp rfl rfl) ?_
 repeat refine stq rfl ?_
 refine pw_loop (fun k => k ≤ Pl.length) (fun k => [(0,.sl (l.map eS)),(3,.als 3 (k + 1) 0 (((Pl.take k).map upA).map eA).length),(9,.sl (Pl.map eN)),(10,I Pl.length),(11,I k)]) (fun k => [(3,k + 1,⟨62,8,((Pl.take k).map upA).map eA,1⟩)]) (fun k => Pl.length - k) 0 (Nat.zero_le _) ⟨rfl,rfl,rfl,by rw [← hml];rfl,rfl,rfl,trivial⟩ ?_
 intro k s hk
 repeat refine stq rfl ?_
 refine pw_cond rfl (fun h => ?_) (fun h => ?_)
 ·have hlt : k < Pl.length := by have := of_decide_eq_true h;omega
  clear h
  obtain ⟨x,hx⟩ := get_lt hlt
  have hr := hrg x (List.mem_of_getElem? hx)
  have hnx := wholeF (-x) ⟨by omega,by omega⟩
  have hw : IntKind.i64.wrap (((k : Nat) : Int) + 1) = ((k + 1 : Nat) : Int) := by rw [wrap_i64 (by omega) (by omega)];omega
  have hn : IntKind.i64.wrap (0 - x) = -x := by rw [wrap_i64 (by omega) (by omega)];omega
  repeat refine stq rfl ?_
  refine qst rfl rfl (q_idxm rfl rfl rfl rfl rfl (by omega) hx rfl) ?_
  repeat refine stq rfl ?_
  rw [hn]
  refine qst rfl rfl (q_cs rfl hnx rfl rfl) ?_
  repeat refine stq rfl ?_
  refine qst rfl rfl (q_cs rfl w1 rfl rfl) ?_
  repeat refine stq rfl ?_
  refine ps_run (o_slit 1 rfl rfl rfl rfl rfl rfl rfl rfl rfl rfl rfl (by repeat' constructor) rfl ?_)
  repeat refine stq rfl ?_
  refine ps_run (o_app 1 rfl rfl rfl rfl rfl rfl rfl rfl rfl rfl rfl (by repeat' constructor) (by intro row hr;first | (simp at hr;subst hr;rfl) | simp at hr) rfl rfl (by simp;omega) (by simp;omega) ?_)
  repeat refine stq rfl ?_
  refine ⟨k + 1,hlt,by omega,rfl,?_,rfl,rfl,congrArg I hw,?_,trivial⟩
  ·rw [hrows k x hx];rfl
  ·rw [hrows k x hx];rfl
 ·have hge : k = Pl.length := by have := of_decide_eq_false h;omega
  subst hge
  clear h
  rw [List.take_length]
  repeat refine stq rfl ?_
  refine qst rfl rfl (q_cs rfl hp rfl rfl) ?_
  repeat refine stq rfl ?_
  refine pw_loop (fun k => k ≤ Pl.length) (fun k => [(3,.als 3 (Pl.length + k + 1) 0 ((Pl.map upA ++ (Pl.take k).map dnA).map eA).length),(25,.sl (Pl.map eN)),(26,I Pl.length),(27,I k)]) (fun k => [(3,Pl.length + k + 1,⟨62,8,(Pl.map upA ++ (Pl.take k).map dnA).map eA,1⟩)]) (fun k => Pl.length - k) 0 (Nat.zero_le _) ⟨by rw [List.take_zero,List.map_nil,List.append_nil];rfl,rfl,by rw [← hml];rfl,rfl,by rw [List.take_zero,List.map_nil,List.append_nil];rfl,trivial⟩ ?_
  intro k s hk
  repeat refine stq rfl ?_
  refine pw_cond rfl (fun h => ?_) (fun h => ?_)
  ·have hlt : k < Pl.length := by have := of_decide_eq_true h;omega
   clear h
   obtain ⟨x,hx⟩ := get_lt hlt
   have hr := hrg x (List.mem_of_getElem? hx)
   have hnx := wholeF x ⟨by omega,by omega⟩
   have hw : IntKind.i64.wrap (((k : Nat) : Int) + 1) = ((k + 1 : Nat) : Int) := by rw [wrap_i64 (by omega) (by omega)];omega
   repeat refine stq rfl ?_
   refine qst rfl rfl (q_idxm rfl rfl rfl rfl rfl (by omega) hx rfl) ?_
   repeat refine stq rfl ?_
   refine qst rfl rfl (q_cs rfl hnx rfl rfl) ?_
   repeat refine stq rfl ?_
   refine qst rfl rfl (q_cs rfl w2 rfl rfl) ?_
   repeat refine stq rfl ?_
   refine ps_run (o_slit 1 rfl rfl rfl rfl rfl rfl rfl rfl rfl rfl rfl (by repeat' constructor) rfl ?_)
   repeat refine stq rfl ?_
   refine ps_run (o_app 1 rfl rfl rfl rfl rfl rfl rfl rfl rfl rfl rfl (by repeat' constructor) (by intro row hr;first | (simp at hr;subst hr;rfl) | simp at hr) rfl rfl (by simp;omega) (by simp;omega) ?_)
   repeat refine stq rfl ?_
   refine ⟨k + 1,hlt,by omega,?_,rfl,rfl,congrArg I hw,?_,trivial⟩
   ·rw [hrows2 k x hx];rfl
   ·rw [hrows2 k x hx];rfl
  ·have hge : k = Pl.length := by have := of_decide_eq_false h;omega
   subst hge
   clear h
   rw [List.take_length]
   repeat refine stq rfl ?_
   exact end1 rfl rfl rfl (by repeat' constructor) rfl
end Go.Pv


set_option maxHeartbeats 2000000
namespace Go.Pv
attribute [local irreducible] PWP POps PQuiet PSem XThen XBlock RetPost InlPost
open Go.Proofs
def downA : AR := ⟨ofQ ((1 : Int) : Rat),ofQ ((0 : Int) : Rat)⟩
noncomputable def refF (b : BR) (r : AR) : Bool := refB b r.z.val r.t.val
noncomputable def refusalR (b : BR) : PV := if refF b downA = true then .tup [.agg (eA downA),I 12] else match (turnA b.l).find? (refF b) with
 |some r => .tup [.agg (eA r),I 13]
 |none => .tup [.agg (zN ++ zN),I 0]
theorem vI {z : Int} (h : i64 z) : Vq (ofQ (z : Rat)) ((ofQ (z : Rat)).val) 4 := by
 have hz : Zb z := zb_i64 h.1 h.2
 have := Vq.ofQ (h := HQ.int (z := z))
 rw [ofQ_val]
 exact this
theorem turn_va {l : List SR} (hck : checkL l = 0) {r : AR} (h : r ∈ turnA l) : Va r r.z.val r.t.val 4 4 := by
 rw [turnA,List.mem_append] at h
 rcases h with h | h
 ·obtain ⟨x,hx,rfl⟩ := List.mem_map.1 h
  have := place_range hck hx
  exact ⟨vI ⟨by omega,by omega⟩,vI ⟨by decide,by decide⟩⟩
 ·obtain ⟨x,hx,rfl⟩ := List.mem_map.1 h
  have := place_range hck hx
  exact ⟨vI ⟨by omega,by omega⟩,vI ⟨by decide,by decide⟩⟩
theorem down_va : Va downA downA.z.val downA.t.val 4 4 := ⟨vI ⟨by decide,by decide⟩,vI ⟨by decide,by decide⟩⟩
theorem find_drop {α : Type} (p : α → Bool) {l : List α} {i : Nat} {x : α} (h : l[i]? = some x) : (l.drop i).find? p = if p x = true then some x else (l.drop (i + 1)).find? p := by
 obtain ⟨hl,rfl⟩ := List.getElem?_eq_some_iff.1 h
 rw [List.drop_eq_getElem_cons hl,List.find?_cons]
 cases p l[i] <;> simp
set_option maxRecDepth 20000 in
theorem refusal_ret (b : BR) (hb : b.Ok) : Ret Tryz.prog .shared 93 [.agg (eB b)] (refusalR b) := by
 have w1 := wholeF 1 ⟨by decide,by decide⟩
 have w0 := wholeF 0 ⟨by decide,by decide⟩
 have hd := refuses_ret b hb downA down_va (by decide) (by decide)
 have ht := turning_ret b.l hb.lim.l (by have := hb.few.1;omega) hb.chkL
 have hva : ∀ r ∈ turnA b.l,Ret Tryz.prog .shared 116 [.agg (eB b),.agg (eA r)] (.bool (refF b r)) := fun r hr => refuses_ret b hb r (turn_va hb.chkL hr) (by decide) (by decide)
 rw [show refB b downA.z.val downA.t.val = refF b downA from rfl] at hd
 have htl : (turnA b.l).length ≤ 1000 := by
  have := places_len b.l
  have := hb.few.1
  rw [turnA];simp;omega
 generalize hR : refusalR b = R
 rw [refusalR] at hR
 generalize turnA b.l = T at *
 have hml : (T.map eA).length = T.length := by simp
 generalize hfn : refF b = fn at *
 clear hfn
 obtain ⟨w,ba,l⟩ := b
 simp only at *
 rw [downA] at *
 by_cases h1 : fn ⟨ofQ ((1 : Int) : Rat),ofQ ((0 : Int) : Rat)⟩ = true
 ·rw [if_pos h1] at hR
  rw [h1] at hd
  subst hR
  refine Ret.of_pwp layOk mixed Go.Proofs.Tryz.func93 rfl (by decide) rfl rfl ?_
  repeat refine stq rfl ?_
  refine qst rfl rfl (q_cs rfl w1 rfl rfl) ?_
  repeat refine stq rfl ?_
  refine qst rfl rfl (q_cs rfl w0 rfl rfl) ?_
  repeat refine stq rfl ?_
  refine qst rfl rfl (q_cp rfl hd rfl rfl rfl) ?_
  repeat refine stq rfl ?_
  exact endm rfl (by repeat' constructor) rfl (by repeat' constructor) rfl
 ·rw [if_neg h1] at hR
  rw [Bool.not_eq_true] at h1
  rw [h1] at hd
  refine Ret.of_pwp layOk mixed Go.Proofs.Tryz.func93 rfl (by decide) rfl rfl ?_
  repeat refine stq rfl ?_
  refine qst rfl rfl (q_cs rfl w1 rfl rfl) ?_
  repeat refine stq rfl ?_
  refine qst rfl rfl (q_cs rfl w0 rfl rfl) ?_
  repeat refine stq rfl ?_
  refine qst rfl rfl (q_cp rfl hd rfl rfl rfl) ?_
  repeat refine stq rfl ?_
  refine qst rfl rfl (q_cs rfl ht rfl rfl) ?_
  repeat refine stq rfl ?_
  refine pw_loop (fun i => i ≤ T.length ∧ (T.drop i).find? fn = T.find? fn) (fun i => [(1,.ptr 1 1 0 0),(2,.ptr 2 1 0 0),(16,.sl (T.map eA)),(17,I T.length),(18,I (i : Nat))]) (fun i => [(1,1,⟨29,6,[eB ⟨w,ba,l⟩],2⟩),(2,1,⟨62,8,[zN ++ zN],2⟩)]) (fun i => T.length - i) 0 ⟨Nat.zero_le _,by rw [List.drop_zero]⟩ ⟨rfl,rfl,rfl,by rw [← hml];rfl,rfl,rfl,rfl,trivial⟩ ?_
  intro i s ⟨hi,hF⟩
  repeat refine stq rfl ?_
  refine pw_cond rfl (fun h => ?_) (fun h => ?_)
  ·have hlt : i < T.length := by have := of_decide_eq_true h;omega
   clear h
   obtain ⟨r,hr⟩ := get_lt hlt
   have hrr := hva r (List.mem_of_getElem? hr)
   have hw : IntKind.i64.wrap (((i : Nat) : Int) + 1) = ((i + 1 : Nat) : Int) := by rw [wrap_i64 (by omega) (by omega)];omega
   rw [find_drop fn hr] at hF
   cases hfr : fn r with
   |true =>
    rw [hfr] at hrr
    rw [if_pos hfr] at hF
    rw [← hF] at hR
    simp only at hR
    subst hR
    repeat refine stq rfl ?_
    refine qst rfl rfl (q_idxm rfl rfl rfl rfl rfl (by omega) hr rfl) ?_
    repeat refine stq rfl ?_
    refine qst rfl rfl (q_cp rfl hrr rfl rfl rfl) ?_
    repeat refine stq rfl ?_
    exact endm rfl (by repeat' constructor) rfl (by repeat' constructor) rfl
   |false =>
    rw [hfr] at hrr
    rw [if_neg (by rw [hfr];decide)] at hF
    repeat refine stq rfl ?_
    refine qst rfl rfl (q_idxm rfl rfl rfl rfl rfl (by omega) hr rfl) ?_
    repeat refine stq rfl ?_
    refine qst rfl rfl (q_cp rfl hrr rfl rfl rfl) ?_
    repeat refine stq rfl ?_
    exact ⟨i + 1,⟨by omega,hF⟩,by omega,rfl,rfl,rfl,rfl,congrArg I hw,rfl,rfl,trivial⟩
  ·have hie : i = T.length := by have := of_decide_eq_false h;omega
   clear h
   rw [hie,List.drop_length,List.find?_nil] at hF
   rw [← hF] at hR
   simp only at hR
   subst hR
   repeat refine stq rfl ?_
   exact endm rfl (by repeat' constructor) rfl (by repeat' constructor) rfl
end Go.Pv


set_option maxHeartbeats 2000000
namespace Go.Pv
attribute [local irreducible] PWP POps PQuiet PSem XThen XBlock RetPost InlPost
def posU {α : Type} (d : α → Rat) (l : List α) (x : α) : Nat → Nat
 |0 => 0
 |k + 1 => match l[k]? with
  |some y => if d x < d y then posU d l x k else k + 1
  |none => posU d l x k
def posV {α : Type} (d : α → Rat) (l : List α) (x : α) : Nat := posU d l x l.length
def insAt {α : Type} (l : List α) (x : α) (k : Nat) : List α := l.take k ++ x :: l.drop k
def insV {α : Type} (d : α → Rat) (l : List α) (x : α) : List α := insAt l x (posV d l x)
def sortV {α : Type} (d : α → Rat) (l : List α) : List α := l.foldl (insV d) []
theorem posU_at {α : Type} {d : α → Rat} {l : List α} {x : α} {j : Nat} (h2 : j = 0 ∨ ∃ y,l[j - 1]? = some y ∧ d y ≤ d x) : ∀ k,j ≤ k → k ≤ l.length → (∀ q y,j ≤ q → q < k → l[q]? = some y → d x < d y) → posU d l x k = j
 |0,hk,_,_ => by rw [posU];omega
 |k + 1,hk,hl,h1 => by
  obtain ⟨y,hy⟩ : ∃ y,l[k]? = some y := ⟨l[k],List.getElem?_eq_getElem (by omega)⟩
  rw [posU,hy]
  dsimp only
  by_cases he : j = k + 1
  ·subst he
   rcases h2 with h2 | ⟨z,hz,hd⟩
   ·omega
   ·rw [Nat.add_sub_cancel,hy] at hz
    cases hz
    rw [if_neg (by grind)]
  ·rw [if_pos (h1 k y (by omega) (by omega) hy)]
   exact posU_at h2 k (by omega) (by omega) fun q z hq hq2 => h1 q z hq (by omega)
theorem posV_at {α : Type} {d : α → Rat} {l : List α} {x : α} {j : Nat} (hj : j ≤ l.length) (h1 : ∀ q y,j ≤ q → l[q]? = some y → d x < d y) (h2 : j = 0 ∨ ∃ y,l[j - 1]? = some y ∧ d y ≤ d x) : posV d l x = j :=
 posU_at h2 _ hj (Nat.le_refl _) fun q y hq _ => h1 q y hq
theorem insV_perm {α : Type} (d : α → Rat) (l : List α) (x : α) : (insV d l x).Perm (x :: l) := by
 rw [insV,insAt]
 exact List.perm_middle.trans (by rw [List.take_append_drop])
theorem sortV_snoc {α : Type} (d : α → Rat) (l : List α) (x : α) : sortV d (l ++ [x]) = insV d (sortV d l) x := by
 rw [sortV,List.foldl_append];rfl
theorem sortV_perm {α : Type} (d : α → Rat) (l : List α) : (sortV d l).Perm l := by
 have : ∀ (l acc : List α),(l.foldl (insV d) acc).Perm (acc ++ l) := by
  intro l
  induction l with
  |nil => intro acc;simp
  |cons x l ih =>
   intro acc
   rw [List.foldl_cons]
   refine (ih _).trans (((insV_perm d acc x).append_right l).trans ?_)
   rw [List.cons_append]
   exact List.perm_middle.symm
 exact this l []
theorem sortV_len {α : Type} (d : α → Rat) (l : List α) : (sortV d l).length = l.length := (sortV_perm d l).length_eq
theorem insAt_at {α : Type} {l : List α} {x : α} {k : Nat} (hk : k ≤ l.length) : (insAt l x k)[k]? = some x := by
 rw [insAt,List.getElem?_append_right (by simp;omega)]
 simp [Nat.min_eq_left hk]
theorem insAt_lt {α : Type} {l : List α} {x : α} {k q : Nat} (hk : k ≤ l.length) (h : q < k) : (insAt l x k)[q]? = l[q]? := by
 rw [insAt,List.getElem?_append_left (by simp;omega),List.getElem?_take,if_pos h]
theorem insAt_swap {α : Type} {l : List α} {x y : α} {k : Nat} (hk : k + 1 ≤ l.length) (hy : l[k]? = some y) : ((insAt l x (k + 1)).set (k + 1) y).set k x = insAt l x k := by
 obtain ⟨hlt,rfl⟩ := List.getElem?_eq_some_iff.1 hy
 apply List.ext_getElem?
 intro q
 have hl1 : (insAt l x (k + 1)).length = l.length + 1 := by simp [insAt];omega
 simp only [List.getElem?_set,List.length_set,hl1]
 by_cases h1 : k = q
 ·subst h1
  rw [if_pos rfl,if_pos (by omega),insAt_at (by omega)]
 ·rw [if_neg h1]
  by_cases h2 : k + 1 = q
  ·subst h2
   rw [if_pos rfl,if_pos (by omega),insAt,List.getElem?_append_right (by simp;omega)]
   simp only [List.length_take,Nat.min_eq_left (show k ≤ l.length by omega),Nat.add_sub_cancel_left,List.getElem?_cons_succ,List.getElem?_drop,Nat.add_zero]
   exact (List.getElem?_eq_getElem hlt).symm
  ·rw [if_neg h2]
   rcases Nat.lt_or_ge q k with h | h
   ·rw [insAt_lt (by omega) h,insAt_lt hk (by omega)]
   ·rw [insAt,insAt,List.getElem?_append_right (by simp;omega),List.getElem?_append_right (by simp;omega)]
    simp only [List.length_take,Nat.min_eq_left hk,Nat.min_eq_left (show k ≤ l.length by omega)]
    obtain ⟨r,rfl⟩ : ∃ r,q = k + 2 + r := ⟨q - (k + 2),by omega⟩
    rw [show k + 2 + r - (k + 1) = r + 1 by omega,show k + 2 + r - k = r + 1 + 1 by omega,List.getElem?_cons_succ,List.getElem?_cons_succ,List.getElem?_drop,List.getElem?_drop]
    congr 1;omega
theorem posU_spec {α : Type} (d : α → Rat) (l : List α) (x : α) : ∀ k,k ≤ l.length → (posU d l x k = 0 ∨ ∃ y,l[posU d l x k - 1]? = some y ∧ d y ≤ d x) ∧ ∀ q y,posU d l x k ≤ q → q < k → l[q]? = some y → d x < d y
 |0,_ => ⟨.inl rfl,fun q y _ hq => by omega⟩
 |k + 1,hk => by
  obtain ⟨y,hy⟩ : ∃ y,l[k]? = some y := ⟨l[k],List.getElem?_eq_getElem (by omega)⟩
  obtain ⟨h1,h2⟩ := posU_spec d l x k (by omega)
  rw [posU,hy]
  dsimp only
  split
  ·rename_i hlt
   refine ⟨h1,fun q z hq hqk hz => ?_⟩
   by_cases he : q = k
   ·subst he;rw [hy] at hz;cases hz;exact hlt
   ·exact h2 q z hq (by omega) hz
  ·rename_i hlt
   exact ⟨.inr ⟨y,by rw [Nat.add_sub_cancel];exact hy,by grind⟩,fun q z hq hqk => by omega⟩
theorem insV_sorted {α : Type} {d : α → Rat} {l : List α} (x : α) (h : l.Pairwise fun a b => d a ≤ d b) : (insV d l x).Pairwise fun a b => d a ≤ d b := by
 obtain ⟨h1,h2⟩ := posU_spec d l x l.length (Nat.le_refl _)
 rw [insV,insAt,posV]
 generalize posU d l x l.length = k at *
 have hbefore : ∀ a ∈ l.take k,d a ≤ d x := by
  intro a ha
  rcases h1 with h1 | ⟨y,hy,hyx⟩
  ·subst h1;simp at ha
  ·obtain ⟨i,hi,rfl⟩ := List.getElem_of_mem ha
   have hi' : i < k := by simp at hi;omega
   have hil : i < l.length := by simp at hi;omega
   obtain ⟨hk1,hk2⟩ := List.getElem?_eq_some_iff.1 hy
   rw [List.getElem_take]
   by_cases he : i = k - 1
   ·subst he;rw [hk2];exact hyx
   ·have := List.pairwise_iff_getElem.1 h i (k - 1) hil hk1 (by omega)
    rw [hk2] at this
    grind
 have hbehind : ∀ a ∈ l.drop k,d x ≤ d a := by
  intro a ha
  obtain ⟨i,hi,rfl⟩ := List.getElem_of_mem ha
  have hil : k + i < l.length := by simp at hi;omega
  have := h2 (k + i) l[k + i] (by omega) hil (List.getElem?_eq_getElem hil)
  rw [List.getElem_drop]
  grind
 refine List.pairwise_append.2 ⟨h.sublist (List.take_sublist _ _),List.pairwise_cons.2 ⟨hbehind,h.sublist (List.drop_sublist _ _)⟩,fun a ha b hb => ?_⟩
 rcases List.mem_cons.1 hb with rfl | hb
 ·exact hbefore a ha
 ·have := hbefore a ha
  have := hbehind b hb
  grind
theorem sortV_sorted {α : Type} (d : α → Rat) (l : List α) : (sortV d l).Pairwise fun a b => d a ≤ d b := by
 have : ∀ (l acc : List α),acc.Pairwise (fun a b => d a ≤ d b) → (l.foldl (insV d) acc).Pairwise fun a b => d a ≤ d b := by
  intro l
  induction l with
  |nil => intro acc h;exact h
  |cons x l ih => intro acc h;exact ih _ (insV_sorted x h)
 exact this l [] .nil
end Go.Pv


set_option maxHeartbeats 2000000
namespace Go.Pv
attribute [local irreducible] PWP POps PQuiet PSem XThen XBlock RetPost InlPost
open Go.Proofs
theorem inl_end0 {L : Lay} {fn : Func} {K : St → PV → Prop} {s : St} (h : fn.results.toList = []) (hk : K s (.tup [])) : InlPost L fn K .normal s := by
 unfold InlPost
 exact ⟨[],True,by rw [h];rfl,trivial,hk⟩
structure BN where
 at' : RR
 up : RR
def eBn (b : BN) : List PV := eR b.at' ++ eR b.up
def atB (b : BN) : Rat := b.at'.val
theorem cmpB_ret {p q : BN} (h1 : p.at'.sz 7000000) (h2 : q.at'.sz 7000000) : Ret Tryz.prog .shared 205 [.agg (eBn p),.agg (eBn q)] (I (sgn (atB p - atB q))) := by
 have hc := cmpR p.at' q.at' (hx := h1.v) (hy := h2.v) (by decide) (by decide)
 rw [show p.at'.val - q.at'.val = atB p - atB q from rfl] at hc
 generalize sgn (atB p - atB q) = g at *
 obtain ⟨pa,pu⟩ := p
 obtain ⟨qa,qu⟩ := q
 simp only at *
 refine Ret.of_pwp layOk mixed Go.Proofs.Tryz.func205 rfl (by decide) rfl rfl ?_
 repeat refine stq rfl ?_
 refine qst rfl rfl (q_cp rfl hc rfl rfl rfl) ?_
 repeat refine stq rfl ?_
 exact end1i rfl rfl rfl
set_option maxRecDepth 20000 in
theorem ins_sm {K : St → Prop} {s : St} {d g : Nat} {x y z c : Operand} {tys : Array TypeId} {ty : TypeId} {pos : String} {af : Array Edge} (l : List BN) (hl : l.length ≤ 1000)
  (hx : s.ev x = .als 5 g 0 (l.map eBn).length) (hy : s.ev y = I 0) (hz : s.ev z = I l.length) (hc : s.ev c = .clo 205 [])
  (hd : ∀ p ∈ l,p.at'.sz 7000000)
  (ho : FitO s [(5,g,⟨206,8,l.map eBn,1⟩)])
  (hK : ∀ s1 : St,K (({ reg := s.reg,own := (s1.over [] [(5,g,⟨206,8,(sortV atB l).map eBn,1⟩)]).own } : St).putR d (.tup []))) :
  Sm Tryz.prog lay.get s ⟨some d,.call ⟨.value (.func 226),#[x,y,z,c],tys⟩,ty,pos,af,none⟩ K := by
 refine sm_inline layOk rfl rfl Tryz.func226 rfl (by decide) rfl rfl ?_
 show PWP _ _ _ _ (callSt s (([x,y,z,c] : List Operand).map s.ev ++ []))
 rw [show (([x,y,z,c] : List Operand).map s.ev ++ ([] : List PV)) = [.als 5 g 0 (l.map eBn).length,I 0,I l.length,.clo 205 []] by simp [hx,hy,hz,hc]]
 rw [show callSt s [.als 5 g 0 (l.map eBn).length,I 0,I l.length,.clo 205 []] = callSt (s.over [] [(5,g,⟨206,8,l.map eBn,1⟩)]) [.als 5 g 0 (l.map eBn).length,I 0,I l.length,.clo 205 []] by rw [Fit.over (l := []) ho]]
 have hen : (l.map eBn).length = l.length := by rw [List.length_map]
 have h1s : sortV atB (l.take 1) ++ l.drop 1 = l := by
  cases l with
  |nil => rfl
  |cons x r => rfl
 repeat refine stq rfl ?_
 refine pw_loop (fun i => 1 ≤ i ∧ (i ≤ l.length ∨ i = 1)) (fun i => [(0,.als 5 g 0 (l.map eBn).length),(1,I 0),(2,I l.length),(3,.clo 205 []),(8,I i)])
  (fun i => [(5,g,⟨206,8,(sortV atB (l.take i) ++ l.drop i).map eBn,1⟩)]) (fun i => l.length + 1 - i) 1 ⟨Nat.le_refl _,.inr rfl⟩ ⟨rfl,rfl,rfl,rfl,rfl,by rw [h1s];rfl,trivial⟩ ?_
 rintro i s1 ⟨hi1,hi⟩
 repeat refine stq rfl ?_
 refine pw_cond rfl (fun h => ?_) (fun h => ?_)
 ·have hlt : i < l.length := by have := of_decide_eq_true h;omega
  clear h
  obtain ⟨p,hp⟩ := get_lt hlt
  have hx0 := hp
  have htk : l.take (i + 1) = l.take i ++ [p] := take_snoc hx0
  have hdr : l.drop i = p :: l.drop (i + 1) := by
   obtain ⟨hl1,h2⟩ := List.getElem?_eq_some_iff.1 hx0
   rw [List.drop_eq_getElem_cons hl1,h2]
  generalize hP : sortV atB (l.take i) = P at *
  have hPl : P.length = i := by rw [← hP,sortV_len,List.length_take];omega
  have hstart : P ++ l.drop i = insAt P p i ++ l.drop (i + 1) := by
   have hti : P.take i = P := List.take_of_length_le (by omega)
   have hdi : P.drop i = [] := List.drop_eq_nil_of_le (by omega)
   rw [hdr,insAt,hti,hdi];simp
  repeat refine stq rfl ?_
  refine pw_loop (fun j => j ≤ i ∧ ∀ q y,j ≤ q → P[q]? = some y → atB p < atB y) (fun j => [(0,.als 5 g 0 (l.map eBn).length),(1,I 0),(2,I l.length),(3,.clo 205 []),(8,I i),(9,I j)])
   (fun j => [(5,g,⟨206,8,(insAt P p j ++ l.drop (i + 1)).map eBn,1⟩)]) (fun j => j) i ⟨Nat.le_refl _,fun q y hq hy => by rw [List.getElem?_eq_none (by omega)] at hy;cases hy⟩ ⟨rfl,rfl,rfl,rfl,rfl,rfl,by rw [hstart];rfl,trivial⟩ ?_
  rintro j s2 ⟨hj,hpre⟩
  repeat refine stq rfl ?_
  refine pw_draw 17 [18,19,20,21,22,23,24,25,26,27,28,29,30,31,32,33,34] (by decide +kernel) ?_
  repeat refine stq rfl ?_
  (first|refine ps_split rfl rfl ?_ ?_|refine pq_split rfl rfl ?_ ?_|refine p3_split rfl rfl ?_ ?_)<;>intro h
  ·have hj0 : 0 < j := by have := of_decide_eq_true h;omega
   clear h
   obtain ⟨k,rfl⟩ : ∃ k,j = k + 1 := ⟨j - 1,by omega⟩
   have hrow : ((insAt P p (k + 1) ++ l.drop (i + 1)).map eBn)[k + 1]? = some (eBn p) := by
    rw [List.getElem?_map,List.getElem?_append_left (by simp [insAt];omega),insAt_at (by omega)];rfl
   obtain ⟨y,hy1⟩ := get_lt (show k < P.length by omega)
   have hrow2 : ((insAt P p (k + 1) ++ l.drop (i + 1)).map eBn)[k]? = some (eBn y) := by
    rw [List.getElem?_map,List.getElem?_append_left (by simp [insAt];omega),insAt_lt (by omega) (by omega),hy1];rfl
   have hym : y ∈ l := List.mem_of_mem_take ((sortV_perm atB _).mem_iff.1 (hP ▸ List.mem_of_getElem? hy1))
   have hw1 : IntKind.i64.wrap (((k + 1 : Nat) : Int) - 1) = (k : Nat) := by rw [wrap_i64 (by omega) (by omega)];omega
   repeat refine stq rfl ?_
   refine qst rfl rfl (q_idxA rfl rfl rfl rfl rfl rfl rfl (by omega) (by rw [hen];omega)) ?_
   rw [Int.toNat_natCast,Nat.zero_add (k + 1)]
   refine qst rfl rfl (q_ldp rfl rfl rfl hrow rfl) ?_
   repeat refine stq rfl ?_
   rw [hw1]
   refine qst rfl rfl (q_idxA rfl rfl rfl rfl rfl rfl rfl (by omega) (by rw [hen];omega)) ?_
   rw [Int.toNat_natCast,Nat.zero_add k]
   refine qst rfl rfl (q_ldp rfl rfl rfl hrow2 rfl) ?_
   repeat refine stq rfl ?_
   refine qst rfl rfl (q_cp rfl (cmpB_ret (hd p (List.mem_of_getElem? hp)) (hd y hym)) rfl rfl rfl) ?_
   repeat refine stq rfl ?_
   refine pw_cond rfl (fun h => ?_) (fun h => ?_)
   ·have hlt2 : atB p < atB y := by have := (sgn_lt _).1 (of_decide_eq_true h);grind
    clear h
    repeat refine stq rfl ?_
    refine pw_draw2 15 0 [37,38,39,40,41,42,43,44,45,46,47,48,49,50,51] [2,3,4] (by decide +kernel) rfl ?_
    repeat refine stq rfl ?_
    rw [hw1]
    refine qst rfl rfl (q_idxA rfl rfl rfl rfl rfl rfl rfl (by omega) (by rw [hen];omega)) ?_
    rw [Int.toNat_natCast,Nat.zero_add k]
    refine qst rfl rfl (q_ldp rfl rfl rfl hrow2 rfl) ?_
    repeat refine stq rfl ?_
    refine qst rfl rfl (q_idxA rfl rfl rfl rfl rfl rfl rfl (by omega) (by rw [hen];omega)) ?_
    rw [Int.toNat_natCast,Nat.zero_add (k + 1)]
    refine qst rfl rfl (q_ldp rfl rfl rfl hrow rfl) ?_
    repeat refine stq rfl ?_
    refine qst rfl rfl (q_idxA rfl rfl rfl rfl rfl rfl rfl (by omega) (by rw [hen];omega)) ?_
    rw [Int.toNat_natCast,Nat.zero_add (k + 1)]
    repeat refine stq rfl ?_
    refine ps_run0 (o_store (kd' := 1) rfl rfl rfl hrow rfl rfl (by repeat' constructor) rfl rfl rfl rfl ?_)
    refine qst rfl rfl (q_idxA rfl rfl rfl rfl rfl rfl rfl (by omega) (by rw [hen];omega)) ?_
    rw [Int.toNat_natCast,Nat.zero_add k]
    refine ps_run0 (o_store (kd' := 1) rfl rfl rfl (row := eBn y) (by
     show (((insAt P p (k + 1) ++ l.drop (i + 1)).map eBn).set (k + 1) _)[k]? = _
     rw [List.getElem?_set_ne (by omega)];exact hrow2) rfl rfl (by repeat' constructor) rfl rfl rfl rfl ?_)
    repeat refine stq rfl ?_
    refine ⟨k,⟨by omega,fun q z hq hz => ?_⟩,by omega,rfl,rfl,rfl,rfl,rfl,?_,?_,trivial⟩
    ·by_cases hqk : q = k
     ·subst hqk;rw [hy1] at hz;cases hz;exact hlt2
     ·exact hpre q z (by omega) hz
    ·exact congrArg I hw1
    ·refine Eq.trans (b := (g,some (Cont.mk 206 8 ((((insAt P p (k + 1) ++ l.drop (i + 1)).map eBn).set (k + 1) (eBn y)).set k (eBn p)) 1))) rfl ?_
     rw [← List.map_set,← List.map_set,List.set_append_left _ _ (by simp [insAt];omega),List.set_append_left _ _ (by simp [insAt];omega),insAt_swap (by omega) hy1]
   ·have hge2 : atB y ≤ atB p := by
     have h9 := of_decide_eq_false h
     rw [sgn_lt] at h9
     grind
    clear h
    have hpos : posV atB P p = k + 1 := posV_at (by omega) hpre (.inr ⟨y,hy1,hge2⟩)
    have hins : sortV atB (l.take (i + 1)) = insAt P p (k + 1) := by rw [htk,sortV_snoc,hP,insV,hpos]
    repeat refine stq rfl ?_
    refine ⟨i + 1,⟨by omega,.inl (by omega)⟩,by omega,rfl,rfl,rfl,rfl,i64_next (by omega) (by omega),?_,trivial⟩
    rw [hins];rfl
  ·have hj0 : j = 0 := by have := of_decide_eq_false h;omega
   subst hj0
   clear h
   have hpos : posV atB P p = 0 := posV_at (by omega) hpre (.inl rfl)
   have hins : sortV atB (l.take (i + 1)) = insAt P p 0 := by rw [htk,sortV_snoc,hP,insV,hpos]
   repeat refine stq rfl ?_
   refine ⟨i + 1,⟨by omega,.inl (by omega)⟩,by omega,rfl,rfl,rfl,rfl,i64_next (by omega) (by omega),?_,trivial⟩
   rw [hins];rfl
 ·have hge : l.length ≤ i := by have := of_decide_eq_false h;omega
  have hend : sortV atB (l.take i) ++ l.drop i = sortV atB l := by
   rw [List.take_of_length_le hge,List.drop_eq_nil_of_le hge,List.append_nil]
  rw [hend]
  repeat refine stq rfl ?_
  exact inl_end0 rfl (hK s1)
set_option maxRecDepth 20000 in
theorem stableB_sm {K : St → Prop} {s : St} {d g : Nat} {x z c : Operand} {tys : Array TypeId} {ty : TypeId} {pos : String} {af : Array Edge} (l : List BN) (hl : l.length ≤ 19)
  (hx : s.ev x = .als 5 g 0 (l.map eBn).length) (hz : s.ev z = I l.length) (hc : s.ev c = .clo 205 [])
  (hd : ∀ p ∈ l,p.at'.sz 7000000)
  (ho : FitO s [(5,g,⟨206,8,l.map eBn,1⟩)])
  (hK : ∀ s1 : St,K (({ reg := s.reg,own := (s1.over [] [(5,g,⟨206,8,(sortV atB l).map eBn,1⟩)]).own } : St).putR d (.tup []))) :
  Sm Tryz.prog lay.get s ⟨some d,.call ⟨.value (.func 219),#[x,z,c],tys⟩,ty,pos,af,none⟩ K := by
 refine sm_inline layOk rfl rfl Tryz.func219 rfl (by decide) rfl rfl ?_
 show PWP _ _ _ _ (callSt s (([x,z,c] : List Operand).map s.ev ++ []))
 rw [show (([x,z,c] : List Operand).map s.ev ++ ([] : List PV)) = [.als 5 g 0 (l.map eBn).length,I l.length,.clo 205 []] by simp [hx,hz,hc]]
 rw [show callSt s [.als 5 g 0 (l.map eBn).length,I l.length,.clo 205 []] = callSt (s.over [] [(5,g,⟨206,8,l.map eBn,1⟩)]) [.als 5 g 0 (l.map eBn).length,I l.length,.clo 205 []] by rw [Fit.over (l := []) ho]]
 repeat refine stq rfl ?_
 refine pw_loop (fun _ : Unit => True) (fun _ => [(0,.als 5 g 0 (l.map eBn).length),(1,I l.length),(2,.clo 205 []),(6,I 20),(7,I 0),(8,I 20)])
  (fun _ => [(5,g,⟨206,8,l.map eBn,1⟩)]) (fun _ => 0) () trivial ⟨rfl,rfl,rfl,rfl,rfl,rfl,rfl,trivial⟩ ?_
 rintro _ s1 -
 repeat refine stq rfl ?_
 refine pw_cond rfl (fun h => ?_) (fun h => ?_)
 ·have := of_decide_eq_true h;omega
 clear h
 ((repeat ((fail_if_success (with_reducible refine pw_at 6 ?_));refine stx rfl ?_));refine pw_regionS 4 ?_)
 repeat refine stq rfl ?_
 refine psem_sm rfl (ins_sm l (by omega) rfl rfl rfl rfl hd ⟨rfl,trivial⟩ fun s2 => ?_)
 refine psem_ops ?_
 repeat refine stq rfl ?_
 refine pw_loop (fun _ : Unit => True) (fun _ => [(1,I l.length),(6,I 20)])
  (fun _ => [(5,g,⟨206,8,(sortV atB l).map eBn,1⟩)]) (fun _ => 0) () trivial ⟨rfl,rfl,rfl,trivial⟩ ?_
 rintro _ s3 -
 repeat refine stq rfl ?_
 refine pw_cond rfl (fun h => ?_) (fun h => ?_)
 ·have := of_decide_eq_true h;omega
 clear h
 repeat refine stq rfl ?_
 exact inl_end0 rfl (hK s3)
set_option maxRecDepth 20000 in
theorem sortB_sm {K : St → Prop} {s : St} {d g : Nat} {x c : Operand} {tys : Array TypeId} {ty : TypeId} {pos : String} {af : Array Edge} (l : List BN) (hl : l.length ≤ 19)
  (hx : s.ev x = .als 5 g 0 (l.map eBn).length) (hc : s.ev c = .clo 205 [])
  (hd : ∀ p ∈ l,p.at'.sz 7000000)
  (ho : FitO s [(5,g,⟨206,8,l.map eBn,1⟩)])
  (hK : ∀ s1 : St,K (({ reg := s.reg,own := (s1.over [] [(5,g,⟨206,8,(sortV atB l).map eBn,1⟩)]).own } : St).putR d (.tup []))) :
  Sm Tryz.prog lay.get s ⟨some d,.call ⟨.value (.func 204),#[x,c],tys⟩,ty,pos,af,none⟩ K := by
 refine sm_inline layOk rfl rfl Tryz.func204 rfl (by decide) rfl rfl ?_
 show PWP _ _ _ _ (callSt s (([x,c] : List Operand).map s.ev ++ []))
 rw [show (([x,c] : List Operand).map s.ev ++ ([] : List PV)) = [.als 5 g 0 (l.map eBn).length,.clo 205 []] by simp [hx,hc]]
 rw [show callSt s [.als 5 g 0 (l.map eBn).length,.clo 205 []] = callSt (s.over [] [(5,g,⟨206,8,l.map eBn,1⟩)]) [.als 5 g 0 (l.map eBn).length,.clo 205 []] by rw [Fit.over (l := []) ho]]
 have hen : (l.map eBn).length = l.length := by rw [List.length_map]
 ((repeat ((fail_if_success (with_reducible refine pw_at 0 ?_));refine stx rfl ?_));refine pw_regionS 4 ?_)
 repeat refine stq rfl ?_
 refine psem_sm rfl (stableB_sm l hl rfl (congrArg (fun n : Nat => I n) hen) rfl hd ⟨rfl,trivial⟩ fun s2 => ?_)
 refine psem_ops ?_
 repeat refine stq rfl ?_
 exact inl_end0 rfl (hK s2)
end Go.Pv


set_option maxHeartbeats 2000000
namespace Go.Pv
attribute [local irreducible] PWP POps PQuiet PSem XThen XBlock RetPost InlPost
open Go.Proofs
def balQ (s : SR) (t : Rat) : Rat := s.c.val + t * (s.x : Rat)
def bn (s : SR) (t : Rat) (k : Nat) : BN := ⟨ofQ (s.k.s k - balQ s t),ofQ (s.k.m k - befQ s.k.m k)⟩
def bnS (t : Rat) (s : SR) : List BN := (List.range s.k.S.length).map (bn s t)
def bnL (l : List SR) (t : Rat) : List BN := l.flatMap (bnS t)
theorem bnS_len (t : Rat) (s : SR) : (bnS t s).length = s.k.S.length := by simp [bnS]
theorem balQ_hq {s : SR} (hs : s.Lim) {t : Rat} {m : Nat} (ht : HQ t m) : HQ (balQ s t) (13 + (m + 4) + 1) := by
 have hx : Zb s.x := zb_i64 hs.x.1 hs.x.2
 exact @HQ.add _ _ 13 (m + 4) hs.c.v.hq (@HQ.mul _ _ m 4 ht HQ.int)
theorem bnAt_hq {s : SR} (hs : s.Lim) {t : Rat} {m : Nat} (ht : HQ t m) (k : Nat) : HQ (s.k.s k - balQ s t) (4 + (13 + (m + 4) + 1) + 1) := by
 have hb := sI_zb hs.k k
 have hzb : Zb (s.k.S.getD k 0) := zb_i64 hb.1 hb.2
 exact @HQ.sub _ _ 4 _ HQ.int (balQ_hq hs ht)
theorem bn_mem {l : List SR} {t : Rat} {b : BN} (h : b ∈ bnL l t) : ∃ s ∈ l,∃ k,k < s.k.S.length ∧ b = bn s t k := by
 obtain ⟨s,hs,hb⟩ := List.mem_flatMap.1 h
 obtain ⟨k,hk,rfl⟩ := List.mem_map.1 hb
 exact ⟨s,hs,k,List.mem_range.1 hk,rfl⟩
def bnO (l : List SR) (t : Rat) : List BN := sortV atB (bnL l t)
theorem range_snoc (f : Nat → BN) (k : Nat) : (List.range (k + 1)).map f = (List.range k).map f ++ [f k] := by rw [List.range_succ,List.map_append];rfl
set_option maxRecDepth 20000 in
theorem bends_ret (l : List SR) (hl : LimL l) (hck : checkL l = 0) (h8 : ∀ s ∈ l,s.k.S.length ≤ 8) (h12 : l.length ≤ 12) (tr : RR) {t : Rat} {m : Nat} [ht : Vq tr t m] (hm : m ≤ 1000000) (h19 : (bnL l t).length ≤ 19) :
  Ret Tryz.prog .shared 193 [.sl (l.map eS),.agg (eR tr)] (.sl ((bnO l t).map eBn)) := by
 have hw0 := wholeF 0 ⟨by decide,by decide⟩
 have hml : (l.map eS).length = l.length := by simp
 have hlen : ∀ i,i ≤ l.length → ((l.take i).flatMap (bnS t)).length ≤ 19 := fun i hi => by
  have : ((l.take i).flatMap (bnS t)).length ≤ (bnL l t).length := by
   conv => rhs;rw [bnL,← List.take_append_drop i l,List.flatMap_append,List.length_append]
   omega
  omega
 refine Ret.of_pwp layOk mixed Go.Proofs.Tryz.func193 rfl (by decide) rfl rfl ?_
 repeat refine stq rfl ?_
 refine pw_ghost (Ghost.nilreg (k := 5) (t := 5) 206 8 1 rfl rfl) ?_
 refine pw_loop (fun i : Nat => i ≤ l.length) (fun i => [(3,.ptr 3 1 0 0),(5,.als 5 (((l.take i).flatMap (bnS t)).length + 1) 0 (((l.take i).flatMap (bnS t)).map eBn).length),(12,.sl (l.map eS)),(13,I l.length),(14,I (i : Nat))])
  (fun i => [(3,1,⟨26,4,[eR tr],2⟩),(5,((l.take i).flatMap (bnS t)).length + 1,⟨206,8,((l.take i).flatMap (bnS t)).map eBn,1⟩)]) (fun i => l.length - i) 0 (Nat.zero_le _) ⟨rfl,rfl,rfl,by rw [← hml];rfl,rfl,rfl,rfl,trivial⟩ ?_
 intro i s hi
 repeat refine stq rfl ?_
 refine pw_cond rfl (fun h => ?_) (fun h => ?_)
 ·have hlt : i < l.length := by have := of_decide_eq_true h;omega
  clear h
  obtain ⟨x,hx⟩ := get_lt hlt
  have hxm := List.mem_of_getElem? hx
  have hxl := hl.1 x hxm
  have hkc := checkL_curve hck x hxm
  obtain ⟨h40,hSM,-,-⟩ := curve_ok hkc
  have hk8 := h8 x hxm
  have hfl : (l.take (i + 1)).flatMap (bnS t) = (l.take i).flatMap (bnS t) ++ bnS t x := by rw [take_snoc hx,List.flatMap_append];simp
  have hA := hlen i hi
  have hA1 := hlen (i + 1) hlt
  rw [hfl,List.length_append,bnS_len] at hA1
  generalize (l.take i).flatMap (bnS t) = A at *
  have hw : IntKind.i64.wrap (((i : Nat) : Int) + 1) = ((i + 1 : Nat) : Int) := by rw [wrap_i64 (by omega) (by omega)];omega
  have hzx : Zb x.x := zb_i64 hxl.x.1 hxl.x.2
  have e1 := wholeF x.x hxl.x
  have e2 := mulR tr (ofQ (x.x : Rat)) (by omega) (by decide)
  have v2 : Vq (ofQ (t * (x.x : Rat))) (t * (x.x : Rat)) (m + 1 + 4) := Vq.ofQ (h := @HQ.mul _ _ (m + 1) 4 ht.hq HQ.int)
  have e3 := addR x.c (ofQ (t * (x.x : Rat))) (hx := hxl.c.v) (hy := v2) (by decide) (by omega)
  rw [show x.c.val + t * (x.x : Rat) = balQ x t from rfl] at e3
  have vb : Vq (ofQ (balQ x t)) (balQ x t) (13 + (m + 1 + 4) + 1) := Vq.ofQ (h := balQ_hq hxl ht.hq)
  have hMl : (x.k.M.map eR).length = x.k.S.length := by simp [hSM]
  repeat refine stq rfl ?_
  refine qst rfl rfl (q_idxm rfl rfl rfl rfl rfl (by omega) hx rfl) ?_
  (repeat ((fail_if_success (with_reducible refine pw_at 5 ?_));refine stx rfl ?_))
  refine pw_ghost (gdrop 8) ?_
  refine pw_draw2 8 1 [18,19,20,21,22,23,24,25,8] [] (by decide +kernel) rfl ?_
  repeat refine stq rfl ?_
  refine qst rfl rfl (q_cs rfl e1 rfl rfl) ?_
  repeat refine stq rfl ?_
  refine qst rfl rfl (q_cs rfl e2 rfl rfl) ?_
  repeat refine stq rfl ?_
  refine qst rfl rfl (q_cs rfl e3 rfl rfl) ?_
  repeat refine stq rfl ?_
  refine qst rfl rfl (q_cs rfl hw0 rfl rfl) ?_
  repeat refine stq rfl ?_
  refine pw_norm [(3,.ptr 3 1 0 0),(5,.als 5 (A.length + 1) 0 (A.map eBn).length),(7,.ptr 7 ((s.own 7).1 + 1) 0 0),(8,.ptr 8 ((s.own 8).1 + 2 + 1) 0 0),(9,.ptr 9 ((s.own 9).1 + 1) 0 0),(12,.sl (l.map eS)),(13,I l.length),(14,I (i : Nat)),(29,.sl (x.k.M.map eR)),(30,I (x.k.M.map eR).length),(31,I ((0 : Nat) : Int))]
   [(3,1,⟨26,4,[eR tr],2⟩),(5,A.length + 1,⟨206,8,A.map eBn,1⟩),(7,(s.own 7).1 + 1,⟨122,7,[eS x],2⟩),(8,(s.own 8).1 + 2 + 1,⟨26,4,[eR (ofQ (balQ x t))],2⟩),(9,(s.own 9).1 + 1,⟨26,4,[eR (bfR x.k 0)],2⟩)]
   ⟨rfl,rfl,rfl,rfl,rfl,rfl,rfl,rfl,rfl,rfl,rfl,rfl,rfl,rfl,rfl,rfl,trivial⟩ ?_
  generalize (s.own 7).1 + 1 = g7
  generalize (s.own 8).1 + 2 + 1 = g8
  generalize (s.own 9).1 + 1 = g9
  rw [hMl]
  intro s1
  refine pw_loop (fun k : Nat => k ≤ x.k.S.length) (fun k => [(3,.ptr 3 1 0 0),(5,.als 5 (A.length + k + 1) 0 ((A ++ (List.range k).map (bn x t)).map eBn).length),(7,.ptr 7 g7 0 0),(8,.ptr 8 g8 0 0),(9,.ptr 9 g9 0 0),(12,.sl (l.map eS)),(13,I l.length),(14,I (i : Nat)),(29,.sl (x.k.M.map eR)),(30,I x.k.S.length),(31,I (k : Nat))])
   (fun k => [(3,1,⟨26,4,[eR tr],2⟩),(5,A.length + k + 1,⟨206,8,(A ++ (List.range k).map (bn x t)).map eBn,1⟩),(7,g7,⟨122,7,[eS x],2⟩),(8,g8,⟨26,4,[eR (ofQ (balQ x t))],2⟩),(9,g9,⟨26,4,[eR (bfR x.k k)],2⟩)]) (fun k => x.k.S.length - k) 0 (Nat.zero_le _)
   ⟨rfl,by rw [List.range_zero,List.map_nil,List.append_nil];rfl,rfl,rfl,rfl,rfl,rfl,rfl,rfl,rfl,rfl,rfl,by rw [List.range_zero,List.map_nil,List.append_nil];rfl,rfl,rfl,rfl,trivial⟩ ?_
  intro k s2 hk
  repeat refine stq rfl ?_
  refine pw_cond rfl (fun h => ?_) (fun h => ?_)
  ·have hlk : k < x.k.S.length := by have := of_decide_eq_true h;omega
   clear h
   have hsx := get_some (d := 0) hlk
   have hmx := get_some (l := x.k.M) (i := k) (d := RR.zero) (by omega)
   have hxb := sI_zb hxl.k k
   have hzb : Zb (x.k.S.getD k 0) := zb_i64 hxb.1 hxb.2
   have f1 := wholeF (x.k.S.getD k 0) hxb
   rw [show ((x.k.S.getD k 0 : Int) : Rat) = x.k.s k from rfl] at f1
   have vs : Vq (ofQ (x.k.s k)) (x.k.s k) 4 := Vq.ofQ (h := HQ.int)
   have f2 := subR (ofQ (x.k.s k)) (ofQ (balQ x t)) (hx := vs) (hy := vb) (by decide) (by omega)
   have f3 := subR (x.k.M.getD k RR.zero) (bfR x.k k) (hx := mR_v x.k hxl.k k) (hy := bfR_v x.k hxl.k k) (by decide) (by decide)
   have hwk : IntKind.i64.wrap (((k : Nat) : Int) + 1) = ((k + 1 : Nat) : Int) := by rw [wrap_i64 (by omega) (by omega)];omega
   have hrow : (A ++ (List.range (k + 1)).map (bn x t)).map eBn = (A ++ (List.range k).map (bn x t)).map eBn ++ [eR (ofQ (x.k.s k - balQ x t)) ++ eR (ofQ (x.k.m k - befQ x.k.m k))] := by rw [range_snoc,← List.append_assoc,List.map_append];rfl
   have hal : (A ++ (List.range k).map (bn x t)).length ≤ 19 := by simp;omega
   generalize A ++ (List.range k).map (bn x t) = Ak at *
   generalize ofQ (x.k.s k - balQ x t) = N1 at *
   generalize ofQ (x.k.m k - befQ x.k.m k) = N2 at *
   generalize ofQ (x.k.s k) = N3 at *
   repeat refine stq rfl ?_
   refine qst rfl rfl (q_idxm rfl rfl rfl rfl rfl (by omega) hmx rfl) ?_
   repeat refine stq rfl ?_
   refine pw_draw3 [50,5] [14,15,16] (by decide +kernel) ?_
   repeat refine stq rfl ?_
   refine qst rfl rfl (q_idxm rfl rfl rfl rfl rfl (by omega) hsx rfl) ?_
   repeat refine stq rfl ?_
   refine qst rfl rfl (q_cs rfl f1 rfl rfl) ?_
   repeat refine stq rfl ?_
   refine qst rfl rfl (q_cs rfl f2 rfl rfl) ?_
   repeat refine stq rfl ?_
   refine qst rfl rfl (q_cs rfl f3 rfl rfl) ?_
   repeat refine stq rfl ?_
   refine z3e rfl rfl rfl (o_slit 1 rfl rfl rfl rfl rfl rfl rfl rfl rfl rfl rfl (by repeat' constructor) rfl ⟨offz rfl,?_⟩)
   repeat refine stq rfl ?_
   refine z3e rfl rfl rfl (o_app 1 rfl rfl rfl rfl rfl rfl rfl rfl rfl rfl rfl (by repeat' constructor) (by intro row hr;first | (simp at hr;subst hr;rfl) | (simp at hr;obtain ⟨_,_,rfl⟩ := hr;rfl) | simp at hr) rfl rfl (by simp;omega) (by simp;omega) ⟨offz rfl,?_⟩)
   repeat refine stq rfl ?_
   refine ⟨k + 1,hlk,by omega,rfl,?_,rfl,rfl,rfl,rfl,rfl,rfl,rfl,rfl,congrArg I hwk,rfl,?_,rfl,rfl,rfl,trivial⟩
   ·rw [hrow];rfl
   ·rw [hrow];rfl
  ·have hke : k = x.k.S.length := by have := of_decide_eq_false h;omega
   clear h
   subst hke
   rw [show (List.range x.k.S.length).map (bn x t) = bnS t x from rfl]
   have hgl : A.length + x.k.S.length = ((l.take (i + 1)).flatMap (bnS t)).length := by rw [hfl,List.length_append,bnS_len]
   rw [← hfl,hgl]
   repeat refine stq rfl ?_
   exact ⟨i + 1,hlt,by omega,rfl,rfl,rfl,rfl,congrArg I hw,rfl,rfl,trivial⟩
 ·have hie : i = l.length := by have := of_decide_eq_false h;omega
  clear h
  subst hie
  rw [List.take_length]
  rw [show l.flatMap (bnS t) = bnL l t from rfl]
  have hsz : ∀ p ∈ bnL l t,p.at'.sz 7000000 := fun p hp => by
   obtain ⟨s,hs,k,hk,rfl⟩ := bn_mem hp
   have := hq_len (bnAt_hq (hl.1 s hs) ht.hq k).ok
   exact ⟨by have := this.1;show (ofQ (s.k.s k - balQ s t)).n.l.length ≤ 7000000;omega,by have := this.2;show (ofQ (s.k.s k - balQ s t)).d.l.length ≤ 7000000;omega⟩
  ((repeat ((fail_if_success (with_reducible refine pw_at 14 ?_));refine stx rfl ?_));refine pw_regionS 1 ?_)
  refine stq rfl ?_
  refine ps_nil ?_
  refine psem_sm rfl (sortB_sm (bnL l t) h19 rfl rfl hsz ⟨rfl,trivial⟩ fun s1 => ?_)
  rw [show sortV atB (bnL l t) = bnO l t from rfl]
  have hol : (bnO l t).length = (bnL l t).length := sortV_len _ _
  have hol2 : ((bnL l t).map eBn).length = ((bnO l t).map eBn).length := by simp [hol]
  rw [hol2]
  refine psem_ops ?_
  repeat refine stq rfl ?_
  exact end1 rfl rfl rfl (by repeat' constructor) rfl
end Go.Pv


set_option maxHeartbeats 2000000
namespace Go.Pv
attribute [local irreducible] PWP POps PQuiet PSem XThen XBlock RetPost InlPost
open Go.Proofs
def prB (n : BN) : Rat × Rat := (n.at'.val,n.up.val)
def stlQ (b : BR) (t : Rat) : Rat := stl (b.w : Rat) ((bnO b.l t).map prB) 0 0 0
theorem bnO_mem {l : List SR} {t : Rat} {n : BN} (h : n ∈ bnO l t) : ∃ s ∈ l,∃ k,k < s.k.S.length ∧ n = bn s t k := bn_mem ((sortV_perm atB _).mem_iff.1 h)
theorem ofQ_self {q : Rat} : ofQ (ofQ q).val = ofQ q := by rw [ofQ_val]
set_option maxRecDepth 20000 in
theorem settled_ret (b : BR) (hb : b.Ok) {t : Rat} {m : Nat} (h19 : (bnL b.l t).length ≤ 19) (tr : RR) [ht : Vq tr t m] (hm : m ≤ 100000) : Ret Tryz.prog .shared 165 [.agg (eB b),.agg (eR tr)] (.agg (eA ⟨ofQ (stlQ b t),ofQ t⟩)) := by
 have hw0 := wholeF 0 ⟨by decide,by decide⟩
 rw [show (((0 : Int) : Rat)) = 0 from rfl] at hw0
 have hww := wholeF b.w hb.lim.w
 have zw : Zb b.w := zb_i64 hb.lim.w.1 hb.lim.w.2
 have vw : Vq (ofQ (b.w : Rat)) (b.w : Rat) 4 := Vq.ofQ (h := HQ.int)
 have hbe := bends_ret b.l hb.lim.l hb.chkL hb.few.2 (by have := hb.few.1;omega) tr (m := m) (by omega) h19
 have hlow := lowF tr (by omega)
 have hol : (bnO b.l t).length = (bnL b.l t).length := sortV_len _ _
 have hol19 : (bnO b.l t).length ≤ 19 := by omega
 have hat : ∀ n ∈ bnO b.l t,n.at' = ofQ n.at'.val ∧ n.up = ofQ n.up.val ∧ HQ n.at'.val (m + 30) ∧ HQ n.up.val 27 := fun n hn => by
  obtain ⟨s,hs,k,hk,rfl⟩ := bnO_mem hn
  refine ⟨ofQ_self.symm,ofQ_self.symm,?_,?_⟩
  ·show HQ (ofQ (s.k.s k - balQ s t)).val (m + 30)
   rw [ofQ_val]
   exact (bnAt_hq (hb.lim.l.1 s hs) ht.hq k).mono (by omega)
  ·show HQ (ofQ (s.k.m k - befQ s.k.m k)).val 27
   rw [ofQ_val]
   exact ms_hq (hb.lim.l.1 s hs).k k
 generalize hZ : stlQ b t = Z
 rw [stlQ] at hZ
 generalize bnO b.l t = B at *
 have hml : (B.map eBn).length = B.length := by simp
 obtain ⟨w,ba,l⟩ := b
 simp only at *
 generalize (w : Rat) = W at *
 refine Ret.of_pwp layOk mixed Go.Proofs.Tryz.func165 rfl (by decide) rfl rfl ?_
 repeat refine stq rfl ?_
 refine qst rfl rfl (q_cs rfl hw0 rfl rfl) ?_
 repeat refine stq rfl ?_
 refine qst rfl rfl (q_cs rfl hw0 rfl rfl) ?_
 repeat refine stq rfl ?_
 refine qst rfl rfl (q_cs rfl hww rfl rfl) ?_
 repeat refine stq rfl ?_
 refine qst rfl rfl (q_cs rfl hw0 rfl rfl) ?_
 repeat refine stq rfl ?_
 refine qst rfl rfl (q_cs rfl hbe rfl rfl) ?_
 repeat refine stq rfl ?_
 refine pw_loop (fun q : Nat × Rat × Rat × Rat => q.1 ≤ B.length ∧ stl W ((B.drop q.1).map prB) q.2.1 q.2.2.1 q.2.2.2 = Z ∧ HQ q.2.1 (q.1 * (2 * m + 700) + 4) ∧ HQ q.2.2.1 (q.1 * 28 + 4) ∧ HQ q.2.2.2 (m + 30)) (fun q => [(3,.ptr 3 1 0 0),(4,.ptr 4 1 0 0),(5,.ptr 5 1 0 0),(6,.ptr 6 1 0 0),(7,.ptr 7 1 0 0),(8,.ptr 8 1 0 0),(21,.sl (B.map eBn)),(22,I B.length),(23,I (q.1 : Nat))])
  (fun q => [(3,1,⟨26,4,[eR tr],2⟩),(4,1,⟨40,8,[zN ++ zN],2⟩),(5,1,⟨26,4,[eR (ofQ q.2.1)],2⟩),(6,1,⟨26,4,[eR (ofQ q.2.2.1)],2⟩),(7,1,⟨26,4,[eR (ofQ W)],2⟩),(8,1,⟨26,4,[eR (ofQ q.2.2.2)],2⟩)]) (fun q => B.length - q.1) (0,0,0,0)
  ⟨Nat.zero_le _,by rw [List.drop_zero];exact hZ,HQ.zero.mono (by omega),HQ.zero.mono (by omega),HQ.zero.mono (by omega)⟩ ⟨rfl,rfl,rfl,rfl,rfl,rfl,rfl,by rw [← hml];rfl,rfl,rfl,rfl,rfl,rfl,rfl,rfl,trivial⟩ ?_
 rintro ⟨i,c,k,a⟩ s ⟨hi,hS,hc,hk,ha⟩
 simp only at hi hS hc hk ha
 dsimp only
 have hcb : i * (2 * m + 700) + 4 ≤ 19 * (2 * m + 700) + 4 := by have := Nat.mul_le_mul (show i ≤ 19 by omega) (Nat.le_refl (2 * m + 700));omega
 have vk : Vq (ofQ k) k (i * 28 + 4) := Vq.ofQ (h := hk)
 have vc : Vq (ofQ c) c (i * (2 * m + 700) + 4) := Vq.ofQ (h := hc)
 have va : Vq (ofQ a) a (m + 30) := Vq.ofQ (h := ha)
 have sgk := signF (ofQ k) (hx := vk) (by omega)
 have hsk := sgn_gt k
 have t1 := subR (ofQ W) (ofQ c) (hx := vw) (hy := vc) (by decide) (by omega)
 have u1 : Vq (ofQ (W - c)) (W - c) (4 + (i * (2 * m + 700) + 4) + 1) := Vq.ofQ (h := @HQ.sub _ _ 4 _ (vq_hq2 vw) hc)
 generalize hgk : sgn k = gk at *
 repeat refine stq rfl ?_
 refine pw_cond rfl (fun h => ?_) (fun h => ?_)
 ·have hlt : i < B.length := by have := of_decide_eq_true h;omega
  clear h
  obtain ⟨x,hx⟩ := get_lt hlt
  obtain ⟨x1,x2,x3,x4⟩ := hat x (List.mem_of_getElem? hx)
  have hdr : (B.drop i).map prB = prB x :: (B.drop (i + 1)).map prB := by
   obtain ⟨hl1,h2⟩ := List.getElem?_eq_some_iff.1 hx
   rw [List.drop_eq_getElem_cons hl1,h2];rfl
  rw [hdr,stl] at hS
  have hw : IntKind.i64.wrap (((i : Nat) : Int) + 1) = ((i + 1 : Nat) : Int) := by rw [wrap_i64 (by omega) (by omega)];omega
  obtain ⟨xa,xu⟩ := x
  obtain ⟨p,rfl⟩ : ∃ p,xa = ofQ p := ⟨_,x1⟩
  obtain ⟨u,rfl⟩ : ∃ u,xu = ofQ u := ⟨_,x2⟩
  clear x1 x2
  simp only [prB,ofQ_val] at hS x3 x4
  have vp : Vq (ofQ p) p (m + 30) := Vq.ofQ (h := x3)
  have vu : Vq (ofQ u) u 27 := Vq.ofQ (h := x4)
  have e1 := subR (ofQ p) (ofQ a) (hx := vp) (hy := va) (by omega) (by omega)
  have w1 : Vq (ofQ (p - a)) (p - a) (m + 30 + (m + 30) + 1) := Vq.ofQ (h := @HQ.sub _ _ _ _ x3 ha)
  have e2 := mulR (ofQ k) (ofQ (p - a)) (hx := vk) (hy := w1) (by omega) (by omega)
  have w2 : Vq (ofQ (k * (p - a))) (k * (p - a)) (i * 28 + 4 + (m + 30 + (m + 30) + 1)) := Vq.ofQ (h := @HQ.mul _ _ _ _ hk (vq_hq2 w1))
  have e3 := addR (ofQ c) (ofQ (k * (p - a))) (hx := vc) (hy := w2) (by omega) (by omega)
  have h3 : HQ (c + k * (p - a)) ((i + 1) * (2 * m + 700) + 4) := (@HQ.add _ _ _ _ hc (vq_hq2 w2)).mono (by rw [Nat.add_mul];omega)
  have w3 : Vq (ofQ (c + k * (p - a))) (c + k * (p - a)) ((i + 1) * (2 * m + 700) + 4) := Vq.ofQ (h := h3)
  have hcb1 : (i + 1) * (2 * m + 700) + 4 ≤ 20 * (2 * m + 700) + 4 := by have := Nat.mul_le_mul (show i + 1 ≤ 20 by omega) (Nat.le_refl (2 * m + 700));omega
  have e4 := cmpR (ofQ (c + k * (p - a))) (ofQ W) (hx := w3) (hy := vw) (by omega) (by decide)
  have hs4 := sgn_ge (c + k * (p - a) - W)
  have e5 := addR (ofQ k) (ofQ u) (hx := vk) (hy := vu) (by omega) (by decide)
  have h5 : HQ (k + u) ((i + 1) * 28 + 4) := (@HQ.add _ _ _ _ hk x4).mono (by omega)
  have h6 : HQ c ((i + 1) * (2 * m + 700) + 4) := hc.mono (by rw [Nat.add_mul];omega)
  by_cases hkp : 0 < k
  ·have hkg : 0 < gk := by rw [← hgk];exact (sgn_gt k).2 hkp
   rw [if_pos hkp] at hS
   by_cases hr : W ≤ c + k * (p - a)
   ·rw [if_pos hr] at hS
    have hr4 : 0 ≤ sgn (c + k * (p - a) - W) := hs4.2 (by grind)
    have t2 := overF (ofQ (W - c)) (ofQ k) (hx := u1) (hy := vk) (by omega) (by omega) (by grind)
    have u2 : Vq (ofQ ((W - c) / k)) ((W - c) / k) (4 + (i * (2 * m + 700) + 4) + 1 + (i * 28 + 4)) := Vq.ofQ (h := @HQ.div _ _ _ _ (vq_hq2 u1) hk)
    have t3 := addR (ofQ a) (ofQ ((W - c) / k)) (hx := va) (hy := u2) (by omega) (by omega)
    rw [hS] at t3
    generalize sgn (c + k * (p - a) - W) = g4 at *
    generalize ofQ (c + k * (p - a)) = Y1 at *
    repeat refine stq rfl ?_
    refine qst rfl rfl (q_idxm rfl rfl rfl rfl rfl (by omega) hx rfl) ?_
    repeat refine stq rfl ?_
    refine qst rfl rfl (q_cp rfl sgk rfl rfl rfl) ?_
    repeat refine stq rfl ?_
    refine pw_cond rfl (fun h => ?_) (fun h => ?_)
    ·clear h
     (repeat ((fail_if_success (with_reducible refine pw_at 8 ?_));refine stx rfl ?_))
     refine pw_ghost (gdrop 11) ?_
     refine pw_draw2 8 1 [30,31,32,33,34,35,36,37,11] [] (by decide +kernel) rfl ?_
     repeat refine stq rfl ?_
     refine qst rfl rfl (q_cs rfl e1 rfl rfl) ?_
     repeat refine stq rfl ?_
     refine qst rfl rfl (q_cs rfl e2 rfl rfl) ?_
     repeat refine stq rfl ?_
     refine qst rfl rfl (q_cs rfl e3 rfl rfl) ?_
     repeat refine stq rfl ?_
     refine qst rfl rfl (q_cp rfl e4 rfl rfl rfl) ?_
     repeat refine stq rfl ?_
     refine pw_cond rfl (fun h => ?_) (fun h => ?_)
     ·clear h
      repeat refine stq rfl ?_
      refine qst rfl rfl (q_cp rfl sgk rfl rfl rfl) ?_
      repeat refine stq rfl ?_
      refine pw_cond rfl (fun h => ?_) (fun h => ?_)
      ·clear h
       repeat refine stq rfl ?_
       refine pw_draw 7 [53,54,55,56,57,58,59] (by decide +kernel) ?_
       repeat refine stq rfl ?_
       refine qst rfl rfl (q_cs rfl t1 rfl rfl) ?_
       repeat refine stq rfl ?_
       refine qst rfl rfl (q_cs rfl t2 rfl rfl) ?_
       repeat refine stq rfl ?_
       refine qst rfl rfl (q_cs rfl t3 rfl rfl) ?_
       repeat refine stq rfl ?_
       refine pw_draw 4 [60,61,62,63] (by decide +kernel) ?_
       repeat refine stq rfl ?_
       refine qst rfl rfl (q_cs rfl hlow rfl rfl) ?_
       repeat refine stq rfl ?_
       exact endm rfl (by repeat' constructor) rfl (by repeat' constructor) rfl
      ·exact absurd hkg (of_decide_eq_false h)
     ·exact absurd hr4 (of_decide_eq_false h)
    ·exact absurd hkg (of_decide_eq_false h)
   ·rw [if_neg hr] at hS
    have hr4 : ¬ 0 ≤ sgn (c + k * (p - a) - W) := fun h => by have := hs4.1 h;grind
    generalize sgn (c + k * (p - a) - W) = g4 at *
    generalize hY1 : ofQ (c + k * (p - a)) = Y1 at *
    generalize hY2 : ofQ (k + u) = Y2 at *
    repeat refine stq rfl ?_
    refine qst rfl rfl (q_idxm rfl rfl rfl rfl rfl (by omega) hx rfl) ?_
    repeat refine stq rfl ?_
    refine qst rfl rfl (q_cp rfl sgk rfl rfl rfl) ?_
    repeat refine stq rfl ?_
    refine pw_cond rfl (fun h => ?_) (fun h => ?_)
    ·clear h
     (repeat ((fail_if_success (with_reducible refine pw_at 8 ?_));refine stx rfl ?_))
     refine pw_ghost (gdrop 11) ?_
     refine pw_draw2 8 1 [30,31,32,33,34,35,36,37,11] [] (by decide +kernel) rfl ?_
     repeat refine stq rfl ?_
     refine qst rfl rfl (q_cs rfl e1 rfl rfl) ?_
     repeat refine stq rfl ?_
     refine qst rfl rfl (q_cs rfl e2 rfl rfl) ?_
     repeat refine stq rfl ?_
     refine qst rfl rfl (q_cs rfl e3 rfl rfl) ?_
     repeat refine stq rfl ?_
     refine qst rfl rfl (q_cp rfl e4 rfl rfl rfl) ?_
     repeat refine stq rfl ?_
     refine pw_cond rfl (fun h => ?_) (fun h => ?_)
     ·exact absurd (of_decide_eq_true h) hr4
     ·clear h
      repeat refine stq rfl ?_
      refine qst rfl rfl (q_cs rfl e5 rfl rfl) ?_
      repeat refine stq rfl ?_
      refine ⟨(i + 1,c + k * (p - a),k + u,p),⟨hlt,hS,h3,h5,x3⟩,by simp only;omega,rfl,rfl,rfl,rfl,rfl,rfl,rfl,rfl,congrArg I hw,rfl,rfl,by rw [← hY1];rfl,by rw [← hY2];rfl,rfl,rfl,trivial⟩
    ·exact absurd hkg (of_decide_eq_false h)
  ·have hkg : ¬ 0 < gk := fun h => hkp (by rw [← hgk] at h;exact (sgn_gt k).1 h)
   rw [if_neg hkp] at hS
   generalize hY2 : ofQ (k + u) = Y2 at *
   repeat refine stq rfl ?_
   refine qst rfl rfl (q_idxm rfl rfl rfl rfl rfl (by omega) hx rfl) ?_
   repeat refine stq rfl ?_
   refine qst rfl rfl (q_cp rfl sgk rfl rfl rfl) ?_
   repeat refine stq rfl ?_
   refine pw_cond rfl (fun h => ?_) (fun h => ?_)
   ·exact absurd (of_decide_eq_true h) hkg
   ·clear h
    repeat refine stq rfl ?_
    refine qst rfl rfl (q_cs rfl e5 rfl rfl) ?_
    repeat refine stq rfl ?_
    refine ⟨(i + 1,c,k + u,p),⟨hlt,hS,h6,h5,x3⟩,by simp only;omega,rfl,rfl,rfl,rfl,rfl,rfl,rfl,rfl,congrArg I hw,rfl,rfl,rfl,by rw [← hY2];rfl,rfl,rfl,trivial⟩
 ·have hie : i = B.length := by have := of_decide_eq_false h;omega
  clear h
  rw [hie,List.drop_length,List.map_nil,stl] at hS
  by_cases hkp : 0 < k
  ·have hkg : 0 < gk := by rw [← hgk];exact (sgn_gt k).2 hkp
   rw [if_pos hkp] at hS
   have t2 := overF (ofQ (W - c)) (ofQ k) (hx := u1) (hy := vk) (by omega) (by omega) (by grind)
   have u2 : Vq (ofQ ((W - c) / k)) ((W - c) / k) (4 + (i * (2 * m + 700) + 4) + 1 + (i * 28 + 4)) := Vq.ofQ (h := @HQ.div _ _ _ _ (vq_hq2 u1) hk)
   have t3 := addR (ofQ a) (ofQ ((W - c) / k)) (hx := va) (hy := u2) (by omega) (by omega)
   rw [hS] at t3
   repeat refine stq rfl ?_
   refine qst rfl rfl (q_cp rfl sgk rfl rfl rfl) ?_
   repeat refine stq rfl ?_
   refine pw_cond rfl (fun h => ?_) (fun h => ?_)
   ·clear h
    repeat refine stq rfl ?_
    refine pw_draw 7 [53,54,55,56,57,58,59] (by decide +kernel) ?_
    repeat refine stq rfl ?_
    refine qst rfl rfl (q_cs rfl t1 rfl rfl) ?_
    repeat refine stq rfl ?_
    refine qst rfl rfl (q_cs rfl t2 rfl rfl) ?_
    repeat refine stq rfl ?_
    refine qst rfl rfl (q_cs rfl t3 rfl rfl) ?_
    repeat refine stq rfl ?_
    refine pw_draw 4 [60,61,62,63] (by decide +kernel) ?_
    repeat refine stq rfl ?_
    refine qst rfl rfl (q_cs rfl hlow rfl rfl) ?_
    repeat refine stq rfl ?_
    exact endm rfl (by repeat' constructor) rfl (by repeat' constructor) rfl
   ·exact absurd hkg (of_decide_eq_false h)
  ·have hkg : ¬ 0 < gk := fun h => hkp (by rw [← hgk] at h;exact (sgn_gt k).1 h)
   rw [if_neg hkp] at hS
   repeat refine stq rfl ?_
   refine qst rfl rfl (q_cp rfl sgk rfl rfl rfl) ?_
   repeat refine stq rfl ?_
   refine pw_cond rfl (fun h => ?_) (fun h => ?_)
   ·exact absurd (of_decide_eq_true h) hkg
   ·clear h
    repeat refine stq rfl ?_
    refine pw_draw 4 [60,61,62,63] (by decide +kernel) ?_
    repeat refine stq rfl ?_
    refine qst rfl rfl (q_cs rfl hlow rfl rfl) ?_
    repeat refine stq rfl ?_
    exact endm rfl (by repeat' constructor) rfl (by repeat' constructor) (by rw [← hS];rfl)
end Go.Pv


set_option maxHeartbeats 2000000
namespace Go.Pv
attribute [local irreducible] PWP POps PQuiet PSem XThen XBlock RetPost InlPost
open Go.Proofs
theorem bd_ok {b : BR} (hb : b.Ok) : (bd b).Ok := by
 refine ⟨fun i hi => curve_crv (checkL_curve hb.chkL _ (getD_mem hi)),?_⟩
 have := (body_chk hb.chk).1
 show (0 : Rat) < (b.w : Rat)
 have h : (0 : Int) < b.w := by omega
 exact_mod_cast h
theorem off_hq {c : CR} (hc : c.Lim) {p : Nat} (hp : p ≤ 8) : HQ (offQ c.s c.m p) 300 := by
 rw [offQ]
 refine (sumN_hq (m := 31) p fun k _ => ?_).mono (by omega)
 have hb := sI_zb hc k
 have hzb : Zb (c.S.getD k 0) := zb_i64 hb.1 hb.2
 exact @HQ.mul _ _ 27 4 (ms_hq hc k) HQ.int
theorem k_hq {b : BR} (hb : b.Ok) (p : Nat → Nat) {i : Nat} (hi : i < b.l.length) : HQ ((bd b).k p i) 13 := (bfR_v _ (hb.lim.l.1 _ (getD_mem hi)).k (p i)).hq
theorem x_hq {b : BR} (hb : b.Ok) {i : Nat} (hi : i < b.l.length) : HQ ((bd b).X i) 4 := by
 have hx := (hb.lim.l.1 _ (getD_mem hi)).x
 have hx : Zb (b.l.getD i dS).x := zb_i64 hx.1 hx.2
 exact HQ.int
theorem Kh_hq {b : BR} (hb : b.Ok) (p : Nat → Nat) : HQ ((bd b).Kh p) 300 := (sumN_hq (m := 13) b.l.length fun i hi => k_hq hb p hi).mono (by have := hb.few.1;omega)
theorem Kc_hq {b : BR} (hb : b.Ok) (p : Nat → Nat) : HQ ((bd b).Kc p) 300 := (sumN_hq (m := 17) b.l.length fun i hi => @HQ.mul _ _ 13 4 (k_hq hb p hi) (x_hq hb hi)).mono (by have := hb.few.1;omega)
theorem Kp_hq {b : BR} (hb : b.Ok) (p : Nat → Nat) : HQ ((bd b).Kp p) 300 := (sumN_hq (m := 21) b.l.length fun i hi => @HQ.mul _ _ 17 4 (@HQ.mul _ _ 13 4 (k_hq hb p hi) (x_hq hb hi)) (x_hq hb hi)).mono (by have := hb.few.1;omega)
theorem ko_hq {b : BR} (hb : b.Ok) {p : Nat → Nat} (hp : ∀ i,i < b.l.length → p i ≤ (bd b).n i) {i : Nat} (hi : i < b.l.length) : HQ ((bd b).k p i * (bd b).C i - (bd b).o p i) 327 := by
 have h8 := hb.few.2 _ (getD_mem hi)
 have hpi := hp i hi
 have hc : HQ ((bd b).C i) 13 := (hb.lim.l.1 _ (getD_mem hi)).c.v.hq
 exact @HQ.sub _ _ 26 300 (@HQ.mul _ _ 13 13 (k_hq hb p hi) hc) (off_hq (hb.lim.l.1 _ (getD_mem hi)).k (Nat.le_trans hpi h8))
theorem Fo_hq {b : BR} (hb : b.Ok) {p : Nat → Nat} (hp : ∀ i,i < b.l.length → p i ≤ (bd b).n i) : HQ ((bd b).Fo p) 4100 := (sumN_hq (m := 327) b.l.length fun i hi => ko_hq hb hp hi).mono (by have := hb.few.1;omega)
theorem Go_hq {b : BR} (hb : b.Ok) {p : Nat → Nat} (hp : ∀ i,i < b.l.length → p i ≤ (bd b).n i) : HQ ((bd b).Go p) 4100 := (sumN_hq (m := 331) b.l.length fun i hi => @HQ.mul _ _ 327 4 (ko_hq hb hp hi) (x_hq hb hi)).mono (by have := hb.few.1;omega)
theorem closed0 {z X D : Rat} (hd : D ≠ 0) : z + (X - z * D) / D = X / D := by grind
theorem closed1 {h c p z t F G w M : Rat} (hd : h * p - c * c ≠ 0) : z + (p * (w - (h * z + c * t + F)) - c * (M - (c * z + p * t + G))) / (h * p - c * c) = (p * (w - F) - c * (M - G)) / (h * p - c * c) := by
 rw [show p * (w - (h * z + c * t + F)) - c * (M - (c * z + p * t + G)) = (p * (w - F) - c * (M - G)) - z * (h * p - c * c) by grind,closed0 hd]
theorem closed2 {h c p z t F G w M : Rat} (hd : h * p - c * c ≠ 0) : t + (h * (M - (c * z + p * t + G)) - c * (w - (h * z + c * t + F))) / (h * p - c * c) = (h * (M - G) - c * (w - F)) / (h * p - c * c) := by
 rw [show h * (M - (c * z + p * t + G)) - c * (w - (h * z + c * t + F)) = (h * (M - G) - c * (w - F)) - t * (h * p - c * c) by grind,closed0 hd]
theorem newt_hq {b : BR} (hb : b.Ok) {p : Nat → Nat} {z t : Rat} (hp : (bd b).Inc p z t) {d : Rat × Rat} (h : Bd.newt ((bd b).Kh p) ((bd b).Kc p) ((bd b).Kp p) ((bd b).w - (bd b).F z t) (-((bd b).e z t)) = some d) : HQ (z + d.1) 20000 ∧ HQ (t + d.2) 20000 := by
 have hpn : ∀ i,i < b.l.length → p i ≤ (bd b).n i := fun i hi => (hp i hi).1
 have hw : Zb b.w := zb_i64 hb.lim.w.1 hb.lim.w.2
 have e1 := Bd.F_at (bd_ok hb) hp
 have e2 := Bd.G_at (bd_ok hb) hp
 rw [Bd.newt] at h
 split at h
 ·cases h
 ·rename_i hd
  cases h
  have hf : -((bd b).e z t) = (bd b).w * (bd b).A - (bd b).G z t := by rw [Bd.e];grind
  simp only
  rw [hf,e1,e2,closed1 hd,closed2 hd]
  have kh := Kh_hq hb p
  have kc := Kc_hq hb p
  have kp := Kp_hq hb p
  have fo := Fo_hq hb hpn
  have go := Go_hq hb hpn
  have wq : HQ ((bd b).w) 4 := HQ.int
  have wa : HQ ((bd b).w * (bd b).A) 17 := wA_hq hb
  have f1 := @HQ.sub _ _ 4 4100 wq fo
  have g1 := @HQ.sub _ _ 17 4100 wa go
  have dt := @HQ.sub _ _ _ _ (@HQ.mul _ _ 300 300 kh kp) (@HQ.mul _ _ 300 300 kc kc)
  exact ⟨(@HQ.div _ _ _ _ (@HQ.sub _ _ _ _ (@HQ.mul _ _ _ _ kp f1) (@HQ.mul _ _ _ _ kc g1)) dt).mono (by omega),(@HQ.div _ _ _ _ (@HQ.sub _ _ _ _ (@HQ.mul _ _ _ _ kh g1) (@HQ.mul _ _ _ _ kc f1)) dt).mono (by omega)⟩
end Go.Pv


set_option maxHeartbeats 2000000
namespace Go.Pv
attribute [local irreducible] PWP POps PQuiet PSem XThen XBlock RetPost InlPost
open Go.Proofs
def gsR (o : Option (Rat × Rat)) : PV := match o with
 |none => .tup [.agg (zN ++ zN),.bool false]
 |some x => .tup [.agg (eA ⟨ofQ x.1,ofQ x.2⟩),.bool true]
theorem vq_mono {x : RR} {p : Rat} {n m : Nat} (h : Vq x p n) (hm : n ≤ m) : Vq x p m := ⟨h.val,Nat.le_trans h.sz.1 hm,Nat.le_trans h.sz.2 hm⟩
theorem inc_R {b : BR} (hb : b.Ok) (z t : Rat) : (bd b).Inc ((bd b).pR z t) z t := fun i hi => (prI_in (n := (bd b).n i) (S := (bd b).S i) (y := (bd b).y z t i)).c
theorem inc_L {b : BR} (hb : b.Ok) (z t : Rat) : (bd b).Inc ((bd b).pL z t) z t := fun i hi => (plI_in (n := (bd b).n i) (S := (bd b).S i) (y := (bd b).y z t i)).c
def stR (b : BR) (p : Nat → Nat) : PV := .agg (eK (ofQ ((bd b).Kh p)) (ofQ ((bd b).Kc p)) (ofQ ((bd b).Kp p)))
theorem stiffR_ret (b : BR) (hb : b.Ok) (a : AR) {z t : Rat} {n m : Nat} [ha : Va a z t n m] (hn : n + m ≤ 60000) : Ret Tryz.prog .shared 126 [.sl (b.l.map eS),.clo 173 [.dref (eA a) 0]] (stR b ((bd b).pR z t)) :=
 stiff_ret b.l hb.lim.l hb.few 173 (eA a) (fun s => ofQ (befQ s.k.m (prI s.k.s (yQ s z t) s.k.S.length))) ((bd b).k ((bd b).pR z t)) (fun s hs => right1_ret s (hb.lim.l.1 s hs) (checkL_curve hb.chkL s hs) a (by omega))
  (fun i hi => vq_mono (Vq.ofQ (h := k_hq hb ((bd b).pR z t) hi)) (by decide))
theorem stiffL_ret (b : BR) (hb : b.Ok) (a : AR) {z t : Rat} {n m : Nat} [ha : Va a z t n m] (hn : n + m ≤ 60000) : Ret Tryz.prog .shared 126 [.sl (b.l.map eS),.clo 206 [.dref (eA a) 0]] (stR b ((bd b).pL z t)) :=
 stiff_ret b.l hb.lim.l hb.few 206 (eA a) (fun s => lfR s.k (yQ s z t) s.k.S.length) ((bd b).k ((bd b).pL z t)) (fun s hs => left1_ret s (hb.lim.l.1 s hs) (checkL_curve hb.chkL s hs) a (by omega))
  (fun i hi => vq_mono (lfR_v (hb.lim.l.1 _ (getD_mem hi)).k _ _) (by decide))
structure TryC (b : BR) (a : AR) (z t : Rat) (fo mo : RR) (p : Nat → Nat) (d : Option (Rat × Rat)) : Prop where
 mv : Ret Tryz.prog .shared 125 [stR b p,.agg (eR fo),.agg (eR mo)] (movedR d)
 af : ∀ x,d = some x → Ret Tryz.prog .shared 128 [.agg (eA a),.agg (eA ⟨ofQ x.1,ofQ x.2⟩)] (.agg (eA ⟨ofQ (z + x.1),ofQ (t + x.2)⟩))
 ba : ∀ x,d = some x → Ret Tryz.prog .shared 115 [.agg (eB b),.agg (eA ⟨ofQ (z + x.1),ofQ (t + x.2)⟩)] (.bool (decide ((bd b).Bal (z + x.1) (t + x.2))))
theorem tryC (b : BR) (hb : b.Ok) (a : AR) {z t : Rat} {n m : Nat} (ha : Va a z t n m) (hn : n + m ≤ 50000) {p : Nat → Nat} (hp : (bd b).Inc p z t) :
  TryC b a z t (ofQ ((bd b).w - (bd b).F z t)) (ofQ (-((bd b).e z t))) p (Bd.newt ((bd b).Kh p) ((bd b).Kc p) ((bd b).Kp p) ((bd b).w - (bd b).F z t) (-((bd b).e z t))) := by
 have hw : Zb b.w := zb_i64 hb.lim.w.1 hb.lim.w.2
 have wq : HQ ((bd b).w) 4 := HQ.int
 have hF : HQ ((bd b).w - (bd b).F z t) (96 * (n + m + 62) + 400) := (@HQ.sub _ _ 4 (96 * ((n + 1) + (m + 1) + 60) + 200) wq (F_hq hb.lim.l hb.few ha.z.hq ha.t.hq)).mono (by omega)
 have hE : HQ (-((bd b).e z t)) (96 * (n + m + 62) + 400) := (@HQ.neg _ _ (e_hq hb ha.z.hq ha.t.hq)).mono (by omega)
 have hd : ∀ x,Bd.newt ((bd b).Kh p) ((bd b).Kc p) ((bd b).Kp p) ((bd b).w - (bd b).F z t) (-((bd b).e z t)) = some x → HQ (z + x.1) 20000 ∧ HQ (t + x.2) 20000 := fun x hx => newt_hq hb hp hx
 refine ⟨moved_ret _ _ _ _ _ (a := 300) (b := 96 * (n + m + 62) + 400) (Vq.ofQ (h := Kh_hq hb p)) (Vq.ofQ (h := Kc_hq hb p)) (Vq.ofQ (h := Kp_hq hb p)) (Vq.ofQ (h := hF)) (Vq.ofQ (h := hE)) (by decide) (by omega),fun x hx => ?_,fun x hx => ?_⟩
 ·obtain ⟨h1,h2⟩ := hd x hx
  have q1 : HQ x.1 (20000 + (n + 1) + 1) := by
   have := @HQ.sub _ _ 20000 (n + 1) h1 ha.z.hq
   rwa [show z + x.1 - z = x.1 by grind] at this
  have q2 : HQ x.2 (20000 + (m + 1) + 1) := by
   have := @HQ.sub _ _ 20000 (m + 1) h2 ha.t.hq
   rwa [show t + x.2 - t = x.2 by grind] at this
  exact after_ret a ⟨ofQ x.1,ofQ x.2⟩ (hd := ⟨Vq.ofQ (h := q1),Vq.ofQ (h := q2)⟩) (by omega) (by omega) (by omega) (by omega)
 ·obtain ⟨h1,h2⟩ := hd x hx
  exact balanced_ret b hb ⟨ofQ (z + x.1),ofQ (t + x.2)⟩ (ha := ⟨Vq.ofQ (h := h1),Vq.ofQ (h := h2)⟩) (by decide)
end Go.Pv


set_option maxHeartbeats 2000000
namespace Go.Pv
attribute [local irreducible] PWP POps PQuiet PSem XThen XBlock RetPost InlPost
open Go.Proofs
def tryO (b : BR) (z t : Rat) : Option (Rat × Rat) → Option (Rat × Rat)
 |none => none
 |some d => if (bd b).Bal (z + d.1) (t + d.2) then some (z + d.1,t + d.2) else none
def nwP (b : BR) (z t : Rat) (p : Nat → Nat) : Option (Rat × Rat) := Bd.newt ((bd b).Kh p) ((bd b).Kc p) ((bd b).Kp p) ((bd b).w - (bd b).F z t) (-((bd b).e z t))
theorem tryP_eq (b : BR) (z t : Rat) (p : Nat → Nat) : (bd b).tryP z t p = tryO b z t (nwP b z t p) := by
 rw [Bd.tryP,nwP]
 cases Bd.newt ((bd b).Kh p) ((bd b).Kc p) ((bd b).Kp p) ((bd b).w - (bd b).F z t) (-((bd b).e z t)) <;> rfl
set_option maxRecDepth 20000 in
theorem guess_ret (b : BR) (hb : b.Ok) (a : AR) {z t : Rat} {n m : Nat} [ha : Va a z t n m] (hn : n + m ≤ 50000) : Ret Tryz.prog .shared 167 [.agg (eB b),.agg (eA a)] (gsR ((bd b).guess z t)) := by
 have h1 := totalF_ret b.l hb.lim.l hb.chkL hb.few a (by omega)
 have h2 := wholeF b.w hb.lim.w
 have zw : Zb b.w := zb_i64 hb.lim.w.1 hb.lim.w.2
 have v1 : Vq (ofQ (sumN (fI b.l z t) b.l.length)) (sumN (fI b.l z t) b.l.length) (96 * (n + 1 + (m + 1) + 60) + 200) := Vq.ofQ (h := F_hq hb.lim.l hb.few ha.z.hq ha.t.hq)
 have h3 := subR (ofQ (b.w : Rat)) (ofQ (sumN (fI b.l z t) b.l.length)) (hy := v1) (by decide) (by omega)
 rw [show (b.w : Rat) - sumN (fI b.l z t) b.l.length = (bd b).w - (bd b).F z t from rfl] at h3
 have h4 := excess_ret b hb a (by omega)
 have v4 : Vq (ofQ ((bd b).e z t)) ((bd b).e z t) (96 * (n + 1 + (m + 1) + 60) + 200 + 17 + 1) := Vq.ofQ (h := e_hq hb ha.z.hq ha.t.hq)
 have h5 := negF (ofQ ((bd b).e z t)) (hx := v4) (by omega)
 have h6 := right_ret a
 have h7 := left_ret a
 have sR := stiffR_ret b hb a (z := z) (t := t) (by omega)
 have sL := stiffL_ret b hb a (z := z) (t := t) (by omega)
 have cR := tryC b hb a ha hn (inc_R hb z t)
 have cL := tryC b hb a ha hn (inc_L hb z t)
 rw [show Bd.newt ((bd b).Kh ((bd b).pR z t)) ((bd b).Kc ((bd b).pR z t)) ((bd b).Kp ((bd b).pR z t)) ((bd b).w - (bd b).F z t) (-((bd b).e z t)) = nwP b z t ((bd b).pR z t) from rfl] at cR
 rw [show Bd.newt ((bd b).Kh ((bd b).pL z t)) ((bd b).Kc ((bd b).pL z t)) ((bd b).Kp ((bd b).pL z t)) ((bd b).w - (bd b).F z t) (-((bd b).e z t)) = nwP b z t ((bd b).pL z t) from rfl] at cL
 generalize hG : (bd b).guess z t = G
 rw [Bd.guess,tryP_eq,tryP_eq] at hG
 generalize hPR : (bd b).pR z t = pR at *
 generalize hPL : (bd b).pL z t = pL at *
 obtain ⟨m1,m2,m3⟩ := cR
 obtain ⟨l1,l2,l3⟩ := cL
 generalize nwP b z t pR = oR at *
 generalize nwP b z t pL = oL at *
 rw [stR] at sR sL m1 l1
 generalize ofQ ((bd b).Kh pR) = R1 at *
 generalize ofQ ((bd b).Kc pR) = R2 at *
 generalize ofQ ((bd b).Kp pR) = R3 at *
 generalize ofQ ((bd b).Kh pL) = L1 at *
 generalize ofQ ((bd b).Kc pL) = L2 at *
 generalize ofQ ((bd b).Kp pL) = L3 at *
 generalize ofQ ((bd b).w - (bd b).F z t) = FO at *
 generalize ofQ (-((bd b).e z t)) = MO at *
 generalize ofQ ((bd b).e z t) = EX at *
 generalize ofQ (sumN (fI b.l z t) b.l.length) = TF at *
 generalize ofQ (sumN (gI b.l z t) b.l.length) = TG at *
 refine Ret.of_pwp layOk mixed Go.Proofs.Tryz.func167 rfl (by decide) rfl rfl ?_
 repeat refine stq rfl ?_
 refine qst rfl rfl (q_cs rfl h1 rfl rfl) ?_
 repeat refine stq rfl ?_
 refine pw_draw2 6 1 [21,22,23,24,25,26,8] [] (by decide +kernel) rfl ?_
 repeat refine stq rfl ?_
 refine qst rfl rfl (q_cs rfl h2 rfl rfl) ?_
 repeat refine stq rfl ?_
 refine qst rfl rfl (q_cs rfl h3 rfl rfl) ?_
 repeat refine stq rfl ?_
 refine qst rfl rfl (q_cs rfl h4 rfl rfl) ?_
 repeat refine stq rfl ?_
 refine qst rfl rfl (q_cs rfl h5 rfl rfl) ?_
 repeat refine stq rfl ?_
 refine pw_draw3 [35] [4,5] (by decide +kernel) ?_
 repeat refine stq rfl ?_
 refine qst rfl rfl (q_cs rfl h6 rfl rfl) ?_
 repeat refine stq rfl ?_
 refine qst rfl rfl (q_cs rfl h7 rfl rfl) ?_
 repeat refine stq rfl ?_
 refine z3e rfl rfl rfl (o_slit 2 rfl rfl rfl rfl rfl rfl rfl rfl rfl rfl rfl (by repeat' constructor) rfl ⟨offz rfl,?_⟩)
 repeat refine stq rfl ?_
 refine pw_loop (fun i : Nat => (i = 0 ∧ (match tryO b z t oR with | some x => some x | none => tryO b z t oL) = G) ∨ (i = 1 ∧ tryO b z t oL = G) ∨ (i = 2 ∧ G = none)) (fun i => [(2,.ptr 2 1 0 0),(3,.ptr 3 1 0 0),(4,.ptr 4 1 0 0),(8,.ptr 8 1 0 0),(9,.ptr 9 1 0 0),(35,.als 35 1 0 2),(36,I 2),(37,I (i : Nat))])
  (fun _ => [(2,1,⟨29,6,[eB b],2⟩),(3,1,⟨40,8,[eA a],2⟩),(4,1,⟨40,8,[zN ++ zN],2⟩),(8,1,⟨26,4,[eR FO],2⟩),(9,1,⟨26,4,[eR MO],2⟩),(35,1,⟨132,1,[[.clo 173 [.dref (eA a) 0]],[.clo 206 [.dref (eA a) 0]]],2⟩)]) (fun i => 2 - i) 0 (.inl ⟨rfl,hG⟩) ⟨rfl,rfl,rfl,rfl,rfl,rfl,rfl,rfl,rfl,rfl,rfl,rfl,rfl,rfl,trivial⟩ ?_
 intro i s hi
 rcases hi with ⟨rfl,hG⟩ | ⟨rfl,hG⟩ | ⟨rfl,hG⟩
 ·cases oR with
  |none =>
   repeat refine stq rfl ?_
   refine qst rfl rfl (q_idxA rfl rfl rfl rfl rfl rfl rfl (by decide) (by decide)) ?_
   repeat refine stq rfl ?_
   refine pw_draw3 [12] [10,11] (by decide +kernel) ?_
   repeat refine stq rfl ?_
   refine qst rfl rfl (q_cs rfl sR rfl rfl) ?_
   repeat refine stq rfl ?_
   refine qst rfl rfl (q_cs rfl m1 rfl rfl) ?_
   repeat refine stq rfl ?_
   refine pw_draw 8 [51,52,53,54,55,56,57,58] (by decide +kernel) ?_
   repeat refine stq rfl ?_
   exact ⟨1,.inr (.inl ⟨rfl,hG⟩),by decide,rfl,rfl,rfl,rfl,rfl,rfl,rfl,rfl,rfl,rfl,rfl,rfl,rfl,rfl,trivial⟩
  |some d =>
   have k1 := m2 d rfl
   have k2 := m3 d rfl
   rw [movedR] at m1
   rw [tryO] at hG
   by_cases hbal : (bd b).Bal (z + d.1) (t + d.2)
   ·rw [decide_eq_true hbal] at k2
    rw [if_pos hbal] at hG
    try simp only at hG
    subst hG
    rw [gsR]
    dsimp only
    generalize ofQ (z + d.1) = Y1 at *
    generalize ofQ (t + d.2) = Y2 at *
    generalize ofQ d.1 = Y3 at *
    generalize ofQ d.2 = Y4 at *
    repeat refine stq rfl ?_
    refine qst rfl rfl (q_idxA rfl rfl rfl rfl rfl rfl rfl (by decide) (by decide)) ?_
    repeat refine stq rfl ?_
    refine pw_draw3 [12] [10,11] (by decide +kernel) ?_
    repeat refine stq rfl ?_
    refine qst rfl rfl (q_cs rfl sR rfl rfl) ?_
    repeat refine stq rfl ?_
    refine qst rfl rfl (q_cs rfl m1 rfl rfl) ?_
    repeat refine stq rfl ?_
    refine pw_draw 8 [51,52,53,54,55,56,57,58] (by decide +kernel) ?_
    repeat refine stq rfl ?_
    refine qst rfl rfl (q_cs rfl k1 rfl rfl) ?_
    repeat refine stq rfl ?_
    refine qst rfl rfl (q_cp rfl k2 rfl rfl rfl) ?_
    repeat refine stq rfl ?_
    refine qst rfl rfl (q_cs rfl k1 rfl rfl) ?_
    repeat refine stq rfl ?_
    exact endm rfl (by repeat' constructor) rfl (by repeat' constructor) rfl
   ·rw [decide_eq_false hbal] at k2
    rw [if_neg hbal] at hG
    try simp only at hG
    generalize ofQ (z + d.1) = Y1 at *
    generalize ofQ (t + d.2) = Y2 at *
    generalize ofQ d.1 = Y3 at *
    generalize ofQ d.2 = Y4 at *
    repeat refine stq rfl ?_
    refine qst rfl rfl (q_idxA rfl rfl rfl rfl rfl rfl rfl (by decide) (by decide)) ?_
    repeat refine stq rfl ?_
    refine pw_draw3 [12] [10,11] (by decide +kernel) ?_
    repeat refine stq rfl ?_
    refine qst rfl rfl (q_cs rfl sR rfl rfl) ?_
    repeat refine stq rfl ?_
    refine qst rfl rfl (q_cs rfl m1 rfl rfl) ?_
    repeat refine stq rfl ?_
    refine pw_draw 8 [51,52,53,54,55,56,57,58] (by decide +kernel) ?_
    repeat refine stq rfl ?_
    refine qst rfl rfl (q_cs rfl k1 rfl rfl) ?_
    repeat refine stq rfl ?_
    refine qst rfl rfl (q_cp rfl k2 rfl rfl rfl) ?_
    repeat refine stq rfl ?_
    exact ⟨1,.inr (.inl ⟨rfl,hG⟩),by decide,rfl,rfl,rfl,rfl,rfl,rfl,rfl,rfl,rfl,rfl,rfl,rfl,rfl,rfl,trivial⟩
 ·cases oL with
  |none =>
   repeat refine stq rfl ?_
   refine qst rfl rfl (q_idxA rfl rfl rfl rfl rfl rfl rfl (by decide) (by decide)) ?_
   repeat refine stq rfl ?_
   refine pw_draw3 [12] [10,11] (by decide +kernel) ?_
   repeat refine stq rfl ?_
   refine qst rfl rfl (q_cs rfl sL rfl rfl) ?_
   repeat refine stq rfl ?_
   refine qst rfl rfl (q_cs rfl l1 rfl rfl) ?_
   repeat refine stq rfl ?_
   refine pw_draw 8 [51,52,53,54,55,56,57,58] (by decide +kernel) ?_
   repeat refine stq rfl ?_
   exact ⟨2,.inr (.inr ⟨rfl,hG.symm⟩),by decide,rfl,rfl,rfl,rfl,rfl,rfl,rfl,rfl,rfl,rfl,rfl,rfl,rfl,rfl,trivial⟩
  |some d =>
   have k1 := l2 d rfl
   have k2 := l3 d rfl
   rw [movedR] at l1
   rw [tryO] at hG
   by_cases hbal : (bd b).Bal (z + d.1) (t + d.2)
   ·rw [decide_eq_true hbal] at k2
    rw [if_pos hbal] at hG
    try simp only at hG
    subst hG
    rw [gsR]
    dsimp only
    generalize ofQ (z + d.1) = Y1 at *
    generalize ofQ (t + d.2) = Y2 at *
    generalize ofQ d.1 = Y3 at *
    generalize ofQ d.2 = Y4 at *
    repeat refine stq rfl ?_
    refine qst rfl rfl (q_idxA rfl rfl rfl rfl rfl rfl rfl (by decide) (by decide)) ?_
    repeat refine stq rfl ?_
    refine pw_draw3 [12] [10,11] (by decide +kernel) ?_
    repeat refine stq rfl ?_
    refine qst rfl rfl (q_cs rfl sL rfl rfl) ?_
    repeat refine stq rfl ?_
    refine qst rfl rfl (q_cs rfl l1 rfl rfl) ?_
    repeat refine stq rfl ?_
    refine pw_draw 8 [51,52,53,54,55,56,57,58] (by decide +kernel) ?_
    repeat refine stq rfl ?_
    refine qst rfl rfl (q_cs rfl k1 rfl rfl) ?_
    repeat refine stq rfl ?_
    refine qst rfl rfl (q_cp rfl k2 rfl rfl rfl) ?_
    repeat refine stq rfl ?_
    refine qst rfl rfl (q_cs rfl k1 rfl rfl) ?_
    repeat refine stq rfl ?_
    exact endm rfl (by repeat' constructor) rfl (by repeat' constructor) rfl
   ·rw [decide_eq_false hbal] at k2
    rw [if_neg hbal] at hG
    try simp only at hG
    generalize ofQ (z + d.1) = Y1 at *
    generalize ofQ (t + d.2) = Y2 at *
    generalize ofQ d.1 = Y3 at *
    generalize ofQ d.2 = Y4 at *
    repeat refine stq rfl ?_
    refine qst rfl rfl (q_idxA rfl rfl rfl rfl rfl rfl rfl (by decide) (by decide)) ?_
    repeat refine stq rfl ?_
    refine pw_draw3 [12] [10,11] (by decide +kernel) ?_
    repeat refine stq rfl ?_
    refine qst rfl rfl (q_cs rfl sL rfl rfl) ?_
    repeat refine stq rfl ?_
    refine qst rfl rfl (q_cs rfl l1 rfl rfl) ?_
    repeat refine stq rfl ?_
    refine pw_draw 8 [51,52,53,54,55,56,57,58] (by decide +kernel) ?_
    repeat refine stq rfl ?_
    refine qst rfl rfl (q_cs rfl k1 rfl rfl) ?_
    repeat refine stq rfl ?_
    refine qst rfl rfl (q_cp rfl k2 rfl rfl rfl) ?_
    repeat refine stq rfl ?_
    exact ⟨2,.inr (.inr ⟨rfl,hG.symm⟩),by decide,rfl,rfl,rfl,rfl,rfl,rfl,rfl,rfl,rfl,rfl,rfl,rfl,rfl,rfl,trivial⟩
 ·subst hG
  repeat refine stq rfl ?_
  exact endm rfl (by repeat' constructor) rfl (by repeat' constructor) rfl
end Go.Pv


set_option maxHeartbeats 2000000
namespace Go.Pv
attribute [local irreducible] PWP POps PQuiet PSem XThen XBlock RetPost InlPost
open Go.Proofs
def rV (s : SR) (z t : Rat) : Rat := befQ s.k.m (prI s.k.s (yQ s z t) s.k.S.length)
def lV (s : SR) (z t : Rat) : Rat := befQ s.k.m (plI s.k.s (yQ s z t) s.k.S.length)
def okS (z t A B : Rat) (s : SR) : Bool := decide (¬ ((0 < A + B * (s.x : Rat) ∧ rV s z t ≠ 0) ∨ (A + B * (s.x : Rat) < 0 ∧ lV s z t ≠ 0)))
def freeB (l : List SR) (z t A B : Rat) : Bool := l.all (okS z t A B)
theorem sgn_pos {p : Rat} (h : 0 < p) : sgn p = 1 := by rw [sgn,if_neg (by grind),if_neg (by grind)]
theorem sgn_neg {p : Rat} (h : p < 0) : sgn p = -1 := by rw [sgn,if_pos h]
theorem sgn_zero {p : Rat} (h : p = 0) : sgn p = 0 := (sgn_eq p).2 h
theorem sgn_nz {p : Rat} (h : p ≠ 0) : sgn p = 1 ∨ sgn p = -1 := by
 rcases Classical.em (0 < p) with h1 | h1
 ·exact .inl (sgn_pos h1)
 ·exact .inr (sgn_neg (by grind))
set_option maxRecDepth 20000 in
theorem free_ret (b : BR) (hb : b.Ok) (a : AR) {z t : Rat} {n m : Nat} [ha : Va a z t n m] (hn : n + m ≤ 50000) (r : AR) {A B : Rat} {n' m' : Nat} (hr : Va r A B n' m') (h2 : n' ≤ 100000) (h3 : m' ≤ 100000) : Ret Tryz.prog .shared 170 [.agg (eB b),.agg (eA a),.agg (eA r)] (.bool (freeB b.l z t A B)) := by
 have h6 := right_ret a
 have h7 := left_ret a
 have hck := hb.chkL
 have hl := hb.lim.l
 have h12 := hb.few.1
 have hrz := hr.z
 have hrt := hr.t
 generalize hF : freeB b.l z t A B = F
 rw [freeB] at hF
 obtain ⟨w,ba,l⟩ := b
 simp only at *
 have hml : (l.map eS).length = l.length := by simp
 obtain ⟨rz,rt⟩ := r
 simp only at hrz hrt
 refine Ret.of_pwp layOk mixed Go.Proofs.Tryz.func170 rfl (by decide) rfl rfl ?_
 repeat refine stq rfl ?_
 refine pw_loop (fun i : Nat => i ≤ l.length ∧ (l.drop i).all (okS z t A B) = l.all (okS z t A B)) (fun i => [(4,.ptr 4 1 0 0),(5,.ptr 5 1 0 0),(11,.sl (l.map eS)),(12,I l.length),(13,I (i : Nat))])
  (fun i => [(4,1,⟨40,8,[eA a],2⟩),(5,1,⟨62,8,[eA ⟨rz,rt⟩],2⟩)]) (fun i => l.length - i) 0 ⟨Nat.zero_le _,by rw [List.drop_zero]⟩ ⟨rfl,rfl,rfl,by rw [← hml];rfl,rfl,rfl,rfl,trivial⟩ ?_
 intro i s ⟨hi,hall⟩
 repeat refine stq rfl ?_
 refine pw_cond rfl (fun h => ?_) (fun h => ?_)
 ·have hlt : i < l.length := by have := of_decide_eq_true h;omega
  clear h
  obtain ⟨x,hx⟩ := get_lt hlt
  have hxm := List.mem_of_getElem? hx
  have hxl := hl.1 x hxm
  have hkc := checkL_curve hck x hxm
  have zx : Zb x.x := zb_i64 hxl.x.1 hxl.x.2
  have hw : IntKind.i64.wrap (((i : Nat) : Int) + 1) = ((i + 1 : Nat) : Int) := by rw [wrap_i64 (by omega) (by omega)];omega
  have hdr : (l.drop i).all (okS z t A B) = (okS z t A B x && (l.drop (i + 1)).all (okS z t A B)) := by
   obtain ⟨hl1,h2⟩ := List.getElem?_eq_some_iff.1 hx
   rw [List.drop_eq_getElem_cons hl1,h2,List.all_cons]
  rw [hdr] at hall
  have hbd : okS z t A B x = okS z t A B x := rfl
  conv at hbd => rhs;rw [okS]
  have e1 := wholeF x.x hxl.x
  have e2 := mulR rt (ofQ (x.x : Rat)) (hx := hrt) (by omega) (by decide)
  have v2 : Vq (ofQ (B * (x.x : Rat))) (B * (x.x : Rat)) (m' + 1 + 4) := Vq.ofQ (h := @HQ.mul _ _ (m' + 1) 4 hrt.hq HQ.int)
  have e3 := addR rz (ofQ (B * (x.x : Rat))) (hx := hrz) (hy := v2) (by omega) (by omega)
  have v3 : Vq (ofQ (A + B * (x.x : Rat))) (A + B * (x.x : Rat)) (n' + 1 + (m' + 1 + 4) + 1) := Vq.ofQ (h := @HQ.add _ _ (n' + 1) _ hrz.hq (vq_hq2 v2))
  have e4 := signF (ofQ (A + B * (x.x : Rat))) (hx := v3) (by omega)
  have cr := right1_ret x hxl hkc a (z := z) (t := t) (by omega)
  have cl := left1_ret x hxl hkc a (z := z) (t := t) (by omega)
  rw [show befQ x.k.m (prI x.k.s (yQ x z t) x.k.S.length) = rV x z t from rfl] at cr
  have vr : Vq (ofQ (rV x z t)) (rV x z t) 13 := Vq.ofQ (h := (bfR_v x.k hxl.k _).hq)
  have vl : Vq (lfR x.k (yQ x z t) x.k.S.length) (lV x z t) 12 := lfR_v hxl.k _ _
  have sr := signF (ofQ (rV x z t)) (hx := vr) (by decide)
  have sl := signF (lfR x.k (yQ x z t) x.k.S.length) (hx := vl) (by decide)
  generalize ofQ (rV x z t) = RV at *
  generalize lfR x.k (yQ x z t) x.k.S.length = LV at *
  generalize okS z t A B x = ok at *
  generalize ofQ (A + B * (x.x : Rat)) = D1 at *
  generalize ofQ (B * (x.x : Rat)) = D2 at *
  generalize ofQ (x.x : Rat) = D3 at *
  rcases Classical.em (0 < A + B * (x.x : Rat)) with hd | hd
  ·rw [sgn_pos hd] at e4
   rcases Classical.em (rV x z t = 0) with hz | hz
   ·rw [sgn_zero hz] at sr
    have hbad : ok = true := by rw [hbd,decide_eq_true];rintro (⟨_,h⟩ | ⟨h,_⟩);exact h hz;grind
    rw [hbad,Bool.true_and] at hall
    repeat refine stq rfl ?_
    refine qst rfl rfl (q_idxm rfl rfl rfl rfl rfl (by omega) hx rfl) ?_
    repeat refine stq rfl ?_
    refine pw_draw 11 [17,18,19,20,21,22,23,24,25,26,9] (by decide +kernel) ?_
    repeat refine stq rfl ?_
    refine qst rfl rfl (q_cs rfl e1 rfl rfl) ?_
    repeat refine stq rfl ?_
    refine qst rfl rfl (q_cs rfl e2 rfl rfl) ?_
    repeat refine stq rfl ?_
    refine qst rfl rfl (q_cs rfl e3 rfl rfl) ?_
    repeat refine stq rfl ?_
    refine qst rfl rfl (q_cp rfl e4 rfl rfl rfl) ?_
    repeat refine stq rfl ?_
    refine pw_draw 22 [27,28,29,30,31,32,33,34,35,36,37,38,39,40,41,42,43,44,45,46,47,48] (by decide +kernel) ?_
    repeat refine stq rfl ?_
    refine qst rfl rfl (q_cs rfl h6 rfl rfl) ?_
    repeat refine stq rfl ?_
    refine qst rfl rfl (q_cs rfl cr rfl rfl) ?_
    repeat refine stq rfl ?_
    refine qst rfl rfl (q_cp rfl sr rfl rfl rfl) ?_
    repeat refine stq rfl ?_
    exact ⟨i + 1,⟨by omega,hall⟩,by omega,rfl,rfl,rfl,rfl,congrArg I hw,rfl,rfl,trivial⟩
   ·have hbad : ok = false := by rw [hbd,decide_eq_false];exact fun h => h (.inl ⟨hd,hz⟩)
    rw [hbad,Bool.false_and] at hall
    rcases sgn_nz hz with hs | hs
    ·rw [hs] at sr
     repeat refine stq rfl ?_
     refine qst rfl rfl (q_idxm rfl rfl rfl rfl rfl (by omega) hx rfl) ?_
     repeat refine stq rfl ?_
     refine pw_draw 11 [17,18,19,20,21,22,23,24,25,26,9] (by decide +kernel) ?_
     repeat refine stq rfl ?_
     refine qst rfl rfl (q_cs rfl e1 rfl rfl) ?_
     repeat refine stq rfl ?_
     refine qst rfl rfl (q_cs rfl e2 rfl rfl) ?_
     repeat refine stq rfl ?_
     refine qst rfl rfl (q_cs rfl e3 rfl rfl) ?_
     repeat refine stq rfl ?_
     refine qst rfl rfl (q_cp rfl e4 rfl rfl rfl) ?_
     repeat refine stq rfl ?_
     refine pw_draw 22 [27,28,29,30,31,32,33,34,35,36,37,38,39,40,41,42,43,44,45,46,47,48] (by decide +kernel) ?_
     repeat refine stq rfl ?_
     refine qst rfl rfl (q_cs rfl h6 rfl rfl) ?_
     repeat refine stq rfl ?_
     refine qst rfl rfl (q_cs rfl cr rfl rfl) ?_
     repeat refine stq rfl ?_
     refine qst rfl rfl (q_cp rfl sr rfl rfl rfl) ?_
     repeat refine stq rfl ?_
     exact end1b rfl rfl (by rw [← hF,← hall])
    ·rw [hs] at sr
     repeat refine stq rfl ?_
     refine qst rfl rfl (q_idxm rfl rfl rfl rfl rfl (by omega) hx rfl) ?_
     repeat refine stq rfl ?_
     refine pw_draw 11 [17,18,19,20,21,22,23,24,25,26,9] (by decide +kernel) ?_
     repeat refine stq rfl ?_
     refine qst rfl rfl (q_cs rfl e1 rfl rfl) ?_
     repeat refine stq rfl ?_
     refine qst rfl rfl (q_cs rfl e2 rfl rfl) ?_
     repeat refine stq rfl ?_
     refine qst rfl rfl (q_cs rfl e3 rfl rfl) ?_
     repeat refine stq rfl ?_
     refine qst rfl rfl (q_cp rfl e4 rfl rfl rfl) ?_
     repeat refine stq rfl ?_
     refine pw_draw 22 [27,28,29,30,31,32,33,34,35,36,37,38,39,40,41,42,43,44,45,46,47,48] (by decide +kernel) ?_
     repeat refine stq rfl ?_
     refine qst rfl rfl (q_cs rfl h6 rfl rfl) ?_
     repeat refine stq rfl ?_
     refine qst rfl rfl (q_cs rfl cr rfl rfl) ?_
     repeat refine stq rfl ?_
     refine qst rfl rfl (q_cp rfl sr rfl rfl rfl) ?_
     repeat refine stq rfl ?_
     exact end1b rfl rfl (by rw [← hF,← hall])
  ·rcases Classical.em (A + B * (x.x : Rat) < 0) with hd2 | hd2
   ·rw [sgn_neg hd2] at e4
    rcases Classical.em (lV x z t = 0) with hz | hz
    ·rw [sgn_zero hz] at sl
     have hbad : ok = true := by rw [hbd,decide_eq_true];rintro (⟨h,_⟩ | ⟨_,h⟩);exact hd h;exact h hz
     rw [hbad,Bool.true_and] at hall
     repeat refine stq rfl ?_
     refine qst rfl rfl (q_idxm rfl rfl rfl rfl rfl (by omega) hx rfl) ?_
     repeat refine stq rfl ?_
     refine pw_draw 11 [17,18,19,20,21,22,23,24,25,26,9] (by decide +kernel) ?_
     repeat refine stq rfl ?_
     refine qst rfl rfl (q_cs rfl e1 rfl rfl) ?_
     repeat refine stq rfl ?_
     refine qst rfl rfl (q_cs rfl e2 rfl rfl) ?_
     repeat refine stq rfl ?_
     refine qst rfl rfl (q_cs rfl e3 rfl rfl) ?_
     repeat refine stq rfl ?_
     refine qst rfl rfl (q_cp rfl e4 rfl rfl rfl) ?_
     repeat refine stq rfl ?_
     refine pw_draw 22 [27,28,29,30,31,32,33,34,35,36,37,38,39,40,41,42,43,44,45,46,47,48] (by decide +kernel) ?_
     repeat refine stq rfl ?_
     refine qst rfl rfl (q_cs rfl h7 rfl rfl) ?_
     repeat refine stq rfl ?_
     refine qst rfl rfl (q_cs rfl cl rfl rfl) ?_
     repeat refine stq rfl ?_
     refine qst rfl rfl (q_cp rfl sl rfl rfl rfl) ?_
     repeat refine stq rfl ?_
     exact ⟨i + 1,⟨by omega,hall⟩,by omega,rfl,rfl,rfl,rfl,congrArg I hw,rfl,rfl,trivial⟩
    ·have hbad : ok = false := by rw [hbd,decide_eq_false];exact fun h => h (.inr ⟨hd2,hz⟩)
     rw [hbad,Bool.false_and] at hall
     rcases sgn_nz hz with hs | hs
     ·rw [hs] at sl
      repeat refine stq rfl ?_
      refine qst rfl rfl (q_idxm rfl rfl rfl rfl rfl (by omega) hx rfl) ?_
      repeat refine stq rfl ?_
      refine pw_draw 11 [17,18,19,20,21,22,23,24,25,26,9] (by decide +kernel) ?_
      repeat refine stq rfl ?_
      refine qst rfl rfl (q_cs rfl e1 rfl rfl) ?_
      repeat refine stq rfl ?_
      refine qst rfl rfl (q_cs rfl e2 rfl rfl) ?_
      repeat refine stq rfl ?_
      refine qst rfl rfl (q_cs rfl e3 rfl rfl) ?_
      repeat refine stq rfl ?_
      refine qst rfl rfl (q_cp rfl e4 rfl rfl rfl) ?_
      repeat refine stq rfl ?_
      refine pw_draw 22 [27,28,29,30,31,32,33,34,35,36,37,38,39,40,41,42,43,44,45,46,47,48] (by decide +kernel) ?_
      repeat refine stq rfl ?_
      refine qst rfl rfl (q_cs rfl h7 rfl rfl) ?_
      repeat refine stq rfl ?_
      refine qst rfl rfl (q_cs rfl cl rfl rfl) ?_
      repeat refine stq rfl ?_
      refine qst rfl rfl (q_cp rfl sl rfl rfl rfl) ?_
      repeat refine stq rfl ?_
      exact end1b rfl rfl (by rw [← hF,← hall])
     ·rw [hs] at sl
      repeat refine stq rfl ?_
      refine qst rfl rfl (q_idxm rfl rfl rfl rfl rfl (by omega) hx rfl) ?_
      repeat refine stq rfl ?_
      refine pw_draw 11 [17,18,19,20,21,22,23,24,25,26,9] (by decide +kernel) ?_
      repeat refine stq rfl ?_
      refine qst rfl rfl (q_cs rfl e1 rfl rfl) ?_
      repeat refine stq rfl ?_
      refine qst rfl rfl (q_cs rfl e2 rfl rfl) ?_
      repeat refine stq rfl ?_
      refine qst rfl rfl (q_cs rfl e3 rfl rfl) ?_
      repeat refine stq rfl ?_
      refine qst rfl rfl (q_cp rfl e4 rfl rfl rfl) ?_
      repeat refine stq rfl ?_
      refine pw_draw 22 [27,28,29,30,31,32,33,34,35,36,37,38,39,40,41,42,43,44,45,46,47,48] (by decide +kernel) ?_
      repeat refine stq rfl ?_
      refine qst rfl rfl (q_cs rfl h7 rfl rfl) ?_
      repeat refine stq rfl ?_
      refine qst rfl rfl (q_cs rfl cl rfl rfl) ?_
      repeat refine stq rfl ?_
      refine qst rfl rfl (q_cp rfl sl rfl rfl rfl) ?_
      repeat refine stq rfl ?_
      exact end1b rfl rfl (by rw [← hF,← hall])
   ·rw [sgn_zero (show A + B * (x.x : Rat) = 0 by grind)] at e4
    have hbad : ok = true := by rw [hbd,decide_eq_true];rintro (⟨h,_⟩ | ⟨h,_⟩);exact hd h;exact hd2 h
    rw [hbad,Bool.true_and] at hall
    repeat refine stq rfl ?_
    refine qst rfl rfl (q_idxm rfl rfl rfl rfl rfl (by omega) hx rfl) ?_
    repeat refine stq rfl ?_
    refine pw_draw 11 [17,18,19,20,21,22,23,24,25,26,9] (by decide +kernel) ?_
    repeat refine stq rfl ?_
    refine qst rfl rfl (q_cs rfl e1 rfl rfl) ?_
    repeat refine stq rfl ?_
    refine qst rfl rfl (q_cs rfl e2 rfl rfl) ?_
    repeat refine stq rfl ?_
    refine qst rfl rfl (q_cs rfl e3 rfl rfl) ?_
    repeat refine stq rfl ?_
    refine qst rfl rfl (q_cp rfl e4 rfl rfl rfl) ?_
    repeat refine stq rfl ?_
    refine pw_draw 22 [27,28,29,30,31,32,33,34,35,36,37,38,39,40,41,42,43,44,45,46,47,48] (by decide +kernel) ?_
    repeat refine stq rfl ?_
    exact ⟨i + 1,⟨by omega,hall⟩,by omega,rfl,rfl,rfl,rfl,congrArg I hw,rfl,rfl,trivial⟩
 ·have hie : i = l.length := by have := of_decide_eq_false h;omega
  clear h
  rw [hie,List.drop_length,List.all_nil] at hall
  rw [← hall] at hF
  subst hF
  repeat refine stq rfl ?_
  exact end1b rfl rfl rfl
end Go.Pv


set_option maxHeartbeats 2000000
namespace Go.Pv
attribute [local irreducible] PWP POps PQuiet PSem XThen XBlock RetPost InlPost
open Go.Proofs
theorem loose1_ret (b : BR) (hb : b.Ok) (a : AR) {z t : Rat} {n m : Nat} [ha : Va a z t n m] (hn : n + m ≤ 50000) (r : AR) {A B : Rat} {n' m' : Nat} (hr : Va r A B n' m') (h2 : n' ≤ 100000) (h3 : m' ≤ 100000) : Ret Tryz.prog .shared 169 [.agg (eA r),.dref (eB b) 0,.dref (eA a) 0] (.bool (freeB b.l z t A B)) := by
 have h1 := free_ret b hb a (z := z) (t := t) hn r hr h2 h3
 generalize freeB b.l z t A B = F at *
 refine Ret.of_pwp layOk mixed Go.Proofs.Tryz.func169 rfl (by decide) rfl rfl ?_
 repeat refine stq rfl ?_
 refine qst rfl rfl (q_cp rfl h1 rfl rfl rfl) ?_
 repeat refine stq rfl ?_
 exact end1b rfl rfl rfl
def idxF (p : AR → Bool) : List AR → Nat → Int
 |[],_ => -1
 |d :: l,i => if p d = true then (i : Int) else idxF p l (i + 1)
theorem idxF_any (p : AR → Bool) : ∀ (l : List AR) (i : Nat),decide (0 ≤ idxF p l i) = l.any p
 |[],i => rfl
 |d :: l,i => by
  rw [idxF,List.any_cons]
  cases h : p d
  ·rw [if_neg (by decide),idxF_any p l (i + 1),Bool.false_or]
  ·rw [if_pos rfl,Bool.true_or,decide_eq_true];omega
theorem idxF_drop (p : AR → Bool) {l : List AR} {i : Nat} {x : AR} (h : l[i]? = some x) : idxF p (l.drop i) i = if p x = true then (i : Int) else idxF p (l.drop (i + 1)) (i + 1) := by
 obtain ⟨hl,rfl⟩ := List.getElem?_eq_some_iff.1 h
 rw [List.drop_eq_getElem_cons hl,idxF]
set_option maxRecDepth 20000 in
theorem indexF_ret (T : List AR) (hT : T.length ≤ 1000) (f : FuncId) (c1 c2 : List PV) (p : AR → Bool) (hg : ∀ d ∈ T,Ret Tryz.prog .shared f [.agg (eA d),.dref c1 0,.dref c2 0] (.bool (p d))) : Ret Tryz.prog .shared 195 [.sl (T.map eA),.clo f [.dref c1 0,.dref c2 0]] (I (idxF p T 0)) := by
 have hml : (T.map eA).length = T.length := by simp
 generalize hF : idxF p T 0 = F
 refine Ret.of_pwp layOk mixed Go.Proofs.Tryz.func195 rfl (by decide) rfl rfl ?_
 repeat refine stq rfl ?_
 refine pw_loop (fun i : Nat => i ≤ T.length ∧ idxF p (T.drop i) i = F) (fun i => [(0,.sl (T.map eA)),(1,.clo f [.dref c1 0,.dref c2 0]),(7,I T.length),(8,I (i : Nat))])
  (fun _ => []) (fun i => T.length - i) 0 ⟨Nat.zero_le _,by rw [List.drop_zero];exact hF⟩ ⟨rfl,rfl,by rw [← hml];rfl,rfl,trivial⟩ ?_
 intro i s ⟨hi,hall⟩
 repeat refine stq rfl ?_
 refine pw_cond rfl (fun h => ?_) (fun h => ?_)
 ·have hlt : i < T.length := by have := of_decide_eq_true h;omega
  clear h
  obtain ⟨x,hx⟩ := get_lt hlt
  have hgx := hg x (List.mem_of_getElem? hx)
  have hw : IntKind.i64.wrap (((i : Nat) : Int) + 1) = ((i + 1 : Nat) : Int) := by rw [wrap_i64 (by omega) (by omega)];omega
  rw [idxF_drop p hx] at hall
  cases hp : p x with
  |true =>
   rw [hp] at hgx
   rw [if_pos hp] at hall
   repeat refine stq rfl ?_
   refine qst rfl rfl (q_idxm rfl rfl rfl rfl rfl (by omega) hx rfl) ?_
   repeat refine stq rfl ?_
   refine qst rfl rfl (q_cp rfl hgx rfl rfl rfl) ?_
   repeat refine stq rfl ?_
   exact end1i rfl rfl (by rw [← hall])
  |false =>
   rw [hp] at hgx
   rw [if_neg (by rw [hp];decide)] at hall
   repeat refine stq rfl ?_
   refine qst rfl rfl (q_idxm rfl rfl rfl rfl rfl (by omega) hx rfl) ?_
   repeat refine stq rfl ?_
   refine qst rfl rfl (q_cp rfl hgx rfl rfl rfl) ?_
   repeat refine stq rfl ?_
   exact ⟨i + 1,⟨by omega,hall⟩,by omega,rfl,rfl,rfl,congrArg I hw,trivial⟩
 ·have hie : i = T.length := by have := of_decide_eq_false h;omega
  clear h
  rw [hie,List.drop_length,idxF] at hall
  rw [← hall]
  repeat refine stq rfl ?_
  exact end1i rfl rfl rfl
theorem containsF_ret (T : List AR) (hT : T.length ≤ 1000) (f : FuncId) (c1 c2 : List PV) (p : AR → Bool) (hg : ∀ d ∈ T,Ret Tryz.prog .shared f [.agg (eA d),.dref c1 0,.dref c2 0] (.bool (p d))) : Ret Tryz.prog .shared 168 [.sl (T.map eA),.clo f [.dref c1 0,.dref c2 0]] (.bool (T.any p)) := by
 have h1 := indexF_ret T hT f c1 c2 p hg
 rw [← idxF_any p T 0]
 generalize idxF p T 0 = F at *
 refine Ret.of_pwp layOk mixed Go.Proofs.Tryz.func168 rfl (by decide) rfl rfl ?_
 repeat refine stq rfl ?_
 refine qst rfl rfl (q_cp rfl h1 rfl rfl rfl) ?_
 repeat refine stq rfl ?_
 exact end1b rfl rfl rfl
end Go.Pv


set_option maxHeartbeats 2000000
namespace Go.Pv
attribute [local irreducible] PWP POps PQuiet PSem XThen XBlock RetPost InlPost
open Go.Proofs
set_option maxRecDepth 20000 in
theorem turning_sm {K : St → Prop} {s : St} {d g2 g3 : Nat} {R2 R3 : Cont} {x : Operand} {tys : Array TypeId} {ty : TypeId} {pos : String} {af : Array Edge} (l : List SR) (hl : LimL l) (h12 : l.length ≤ 1000) (hck : checkL l = 0)
  (hx : s.ev x = .sl (l.map eS)) (ho : FitO s [(2,g2,R2),(1003,g3,R3)])
  (hK : ∀ (s1 : St) (g : Nat),K (({ reg := s.reg,own := (s1.over [] [(2,g2,R2),(1003,g3,R3),(3,g,⟨62,8,(turnA l).map eA,1⟩)]).own } : St).putR d (.als 3 g 0 ((turnA l).map eA).length))) :
  Sm Tryz.prog lay.get s ⟨some d,.call ⟨.value (.func 94),#[x],tys⟩,ty,pos,af,none⟩ K := by
 have hp := places_ret l hl h12
 have hrg : ∀ x ∈ placesL l,-1000000 ≤ x ∧ x ≤ 1000000 := fun x hx => place_range hck hx
 have hpl := places_len l
 have w1 := wholeF 1 ⟨by decide,by decide⟩
 have w2 := wholeF (-1) ⟨by decide,by decide⟩
 rw [turnA] at hK
 generalize placesL l = Pl at *
 have hml : (Pl.map eN).length = Pl.length := by simp
 have hrows : ∀ (k : Nat) x,Pl[k]? = some x → ((Pl.take (k + 1)).map upA).map eA = ((Pl.take k).map upA).map eA ++ [eA (upA x)] := fun k x hx => by rw [take_snoc hx,List.map_append,List.map_append];rfl
 have hrows2 : ∀ (k : Nat) x,Pl[k]? = some x → (Pl.map upA ++ (Pl.take (k + 1)).map dnA).map eA = (Pl.map upA ++ (Pl.take k).map dnA).map eA ++ [eA (dnA x)] := fun k x hx => by rw [take_snoc hx];simp [List.map_append]
 refine sm_inline layOk rfl rfl Tryz.func94 rfl (by decide) rfl rfl ?_
 show PWP _ _ _ _ (callSt s (([x] : List Operand).map s.ev ++ []))
 rw [show (([x] : List Operand).map s.ev ++ ([] : List PV)) = [.sl (l.map eS)] by simp [hx]]
 rw [show callSt s [.sl (l.map eS)] = callSt (s.over [] [(2,g2,R2),(1003,g3,R3)]) [.sl (l.map eS)] by rw [Fit.over (l := []) ho]]
 ((repeat (first | refine ps_nil ?_ | refine pq_nil ?_ | refine x_norm ?_ | refine pw_seq ?_));refine pw_region ?_)
 refine ps_v rfl trivial ?_
 ((repeat (first | refine ps_nil ?_ | refine pq_nil ?_ | refine x_norm ?_ | refine pw_seq ?_));refine pw_region ?_)
 (first | refine ps_run (o_nilm 62 8 1 rfl rfl ?_) | refine ps_run (o_nila 62 8 1 rfl rfl ?_))
 repeat refine stq rfl ?_
 refine qst rfl rfl (q_cs rfl hp rfl rfl) ?_
 repeat refine stq rfl ?_
 refine pw_norm [(0,.sl (l.map eS)),(3,.als 3 ((s.own 3).1 + 1) 0 0),(9,.sl (Pl.map eN)),(10,I (Pl.map eN).length),(11,I ((0 : Nat) : Int))] [(2,g2,R2),(1003,g3,R3),(3,(s.own 3).1 + 1,⟨62,8,[],1⟩)] ⟨rfl,rfl,rfl,rfl,rfl,rfl,rfl,rfl,trivial⟩ ?_
 generalize (s.own 3).1 + 1 = g
 rw [hml]
 intro s0
 refine pw_loop (fun k => k ≤ Pl.length) (fun k => [(0,.sl (l.map eS)),(3,.als 3 (g + k) 0 (((Pl.take k).map upA).map eA).length),(9,.sl (Pl.map eN)),(10,I Pl.length),(11,I k)]) (fun k => [(2,g2,R2),(1003,g3,R3),(3,g + k,⟨62,8,((Pl.take k).map upA).map eA,1⟩)]) (fun k => Pl.length - k) 0 (Nat.zero_le _) ⟨rfl,rfl,rfl,rfl,rfl,rfl,rfl,rfl,trivial⟩ ?_
 intro k s1 hk
 repeat refine stq rfl ?_
 refine pw_cond rfl (fun h => ?_) (fun h => ?_)
 ·have hlt : k < Pl.length := by have := of_decide_eq_true h;omega
  clear h
  obtain ⟨x,hx⟩ := get_lt hlt
  have hr := hrg x (List.mem_of_getElem? hx)
  have hnx := wholeF (-x) ⟨by omega,by omega⟩
  have hw : IntKind.i64.wrap (((k : Nat) : Int) + 1) = ((k + 1 : Nat) : Int) := by rw [wrap_i64 (by omega) (by omega)];omega
  have hn : IntKind.i64.wrap (0 - x) = -x := by rw [wrap_i64 (by omega) (by omega)];omega
  repeat refine stq rfl ?_
  refine qst rfl rfl (q_idxm rfl rfl rfl rfl rfl (by omega) hx rfl) ?_
  repeat refine stq rfl ?_
  rw [hn]
  refine qst rfl rfl (q_cs rfl hnx rfl rfl) ?_
  repeat refine stq rfl ?_
  refine qst rfl rfl (q_cs rfl w1 rfl rfl) ?_
  repeat refine stq rfl ?_
  refine ps_run (o_slit 1 rfl rfl rfl rfl rfl rfl rfl rfl rfl rfl rfl (by repeat' constructor) rfl ?_)
  repeat refine stq rfl ?_
  refine ps_run (o_app 1 rfl rfl rfl rfl rfl rfl rfl rfl rfl rfl rfl (by repeat' constructor) (by intro row hr;first | (simp at hr;subst hr;rfl) | simp at hr) rfl rfl (by simp;omega) (by simp;omega) ?_)
  repeat refine stq rfl ?_
  refine ⟨k + 1,hlt,by omega,rfl,?_,rfl,rfl,congrArg I hw,rfl,rfl,?_,trivial⟩
  ·rw [hrows k x hx];rfl
  ·rw [hrows k x hx];rfl
 ·have hge : k = Pl.length := by have := of_decide_eq_false h;omega
  subst hge
  clear h
  rw [List.take_length]
  repeat refine stq rfl ?_
  refine qst rfl rfl (q_cs rfl hp rfl rfl) ?_
  repeat refine stq rfl ?_
  refine pw_loop (fun k => k ≤ Pl.length) (fun k => [(3,.als 3 (g + Pl.length + k) 0 ((Pl.map upA ++ (Pl.take k).map dnA).map eA).length),(25,.sl (Pl.map eN)),(26,I Pl.length),(27,I k)]) (fun k => [(2,g2,R2),(1003,g3,R3),(3,g + Pl.length + k,⟨62,8,(Pl.map upA ++ (Pl.take k).map dnA).map eA,1⟩)]) (fun k => Pl.length - k) 0 (Nat.zero_le _) ⟨by rw [List.take_zero,List.map_nil,List.append_nil];rfl,rfl,by rw [← hml];rfl,rfl,rfl,rfl,by rw [List.take_zero,List.map_nil,List.append_nil];rfl,trivial⟩ ?_
  intro k s2 hk
  repeat refine stq rfl ?_
  refine pw_cond rfl (fun h => ?_) (fun h => ?_)
  ·have hlt : k < Pl.length := by have := of_decide_eq_true h;omega
   clear h
   obtain ⟨x,hx⟩ := get_lt hlt
   have hr := hrg x (List.mem_of_getElem? hx)
   have hnx := wholeF x ⟨by omega,by omega⟩
   have hw : IntKind.i64.wrap (((k : Nat) : Int) + 1) = ((k + 1 : Nat) : Int) := by rw [wrap_i64 (by omega) (by omega)];omega
   repeat refine stq rfl ?_
   refine qst rfl rfl (q_idxm rfl rfl rfl rfl rfl (by omega) hx rfl) ?_
   repeat refine stq rfl ?_
   refine qst rfl rfl (q_cs rfl hnx rfl rfl) ?_
   repeat refine stq rfl ?_
   refine qst rfl rfl (q_cs rfl w2 rfl rfl) ?_
   repeat refine stq rfl ?_
   refine ps_run (o_slit 1 rfl rfl rfl rfl rfl rfl rfl rfl rfl rfl rfl (by repeat' constructor) rfl ?_)
   repeat refine stq rfl ?_
   refine ps_run (o_app 1 rfl rfl rfl rfl rfl rfl rfl rfl rfl rfl rfl (by repeat' constructor) (by intro row hr;first | (simp at hr;subst hr;rfl) | simp at hr) rfl rfl (by simp;omega) (by simp;omega) ?_)
   repeat refine stq rfl ?_
   refine ⟨k + 1,hlt,by omega,?_,rfl,rfl,congrArg I hw,rfl,rfl,?_,trivial⟩
   ·rw [hrows2 k x hx];rfl
   ·rw [hrows2 k x hx];rfl
  ·have hge : k = Pl.length := by have := of_decide_eq_false h;omega
   subst hge
   clear h
   rw [List.take_length]
   repeat refine stq rfl ?_
   exact inl_one rfl rfl (hK s2 (g + Pl.length + Pl.length))
end Go.Pv


set_option maxHeartbeats 2000000
namespace Go.Pv
attribute [local irreducible] PWP POps PQuiet PSem XThen XBlock RetPost InlPost
open Go.Proofs
def riseA : AR := ⟨ofQ ((-1 : Int) : Rat),ofQ ((0 : Int) : Rat)⟩
def dirsA (l : List SR) : List AR := turnA l ++ [downA,riseA]
def looseB (b : BR) (z t : Rat) : Bool := (dirsA b.l).any fun d => freeB b.l z t d.z.val d.t.val
theorem dirs_va {l : List SR} (hck : checkL l = 0) {r : AR} (h : r ∈ dirsA l) : Va r r.z.val r.t.val 4 4 := by
 rw [dirsA,List.mem_append] at h
 rcases h with h | h
 ·exact turn_va hck h
 ·simp at h
  rcases h with rfl | rfl
  ·exact down_va
  ·exact ⟨vI ⟨by decide,by decide⟩,vI ⟨by decide,by decide⟩⟩
theorem two_len {r1 r2 : List PV} {n : Nat} (h1 : r1.length = n) (h2 : r2.length = n) : ∀ row ∈ [r1,r2],row.length = n := by
 intro row hr
 rcases List.mem_cons.1 hr with rfl | hr
 ·exact h1
 ·rcases List.mem_cons.1 hr with rfl | hr
  ·exact h2
  ·cases hr
set_option maxRecDepth 20000 in
theorem loose_ret (b : BR) (hb : b.Ok) (a : AR) {z t : Rat} {n m : Nat} [ha : Va a z t n m] (hn : n + m ≤ 50000) : Ret Tryz.prog .shared 121 [.agg (eB b),.agg (eA a)] (.bool (looseB b z t)) := by
 have hl := hb.lim.l
 have hck := hb.chkL
 have h12 := hb.few.1
 have hlen : (dirsA b.l).length ≤ 1000 := by
  have := places_len b.l
  rw [dirsA,turnA];simp;omega
 have hc := containsF_ret (dirsA b.l) hlen 169 (eB b) (eA a) (fun d => freeB b.l z t d.z.val d.t.val) fun d hd => loose1_ret b hb a (z := z) (t := t) hn d (dirs_va hck hd) (by decide) (by decide)
 rw [show (dirsA b.l).any (fun d => freeB b.l z t d.z.val d.t.val) = looseB b z t from rfl] at hc
 have w1 := wholeF 1 ⟨by decide,by decide⟩
 have w0 := wholeF 0 ⟨by decide,by decide⟩
 have w2 := wholeF (-1) ⟨by decide,by decide⟩
 generalize looseB b z t = F at *
 have hT : (turnA b.l).length ≤ 1000 := by rw [dirsA] at hlen;simp at hlen;omega
 have hrow : (turnA b.l).map eA ++ [eA downA,eA riseA] = (dirsA b.l).map eA := by rw [dirsA,List.map_append];rfl
 refine Ret.of_pwp layOk mixed Go.Proofs.Tryz.func121 rfl (by decide) rfl rfl ?_
 (repeat ((fail_if_success (with_reducible refine pw_at 1 ?_));refine stx rfl ?_))
 refine pw_ghost (Ghost.move (k := 3) (k' := 1003) (t := 3) rfl rfl rfl rfl) ?_
 ((repeat ((fail_if_success (with_reducible refine pw_at 1 ?_));refine stx rfl ?_));refine pw_regionS 2 ?_)
 iterate 2 refine stq rfl ?_
 refine ps_nil ?_
 refine psem_sm rfl (turning_sm (g2 := 1) (g3 := 1) b.l hl (by omega) hck rfl ⟨rfl,rfl,trivial⟩ fun s1 g => ?_)
 refine psem_ops ?_
 repeat refine stq rfl ?_
 refine qst rfl rfl (q_cs rfl w1 rfl rfl) ?_
 repeat refine stq rfl ?_
 refine qst rfl rfl (q_cs rfl w0 rfl rfl) ?_
 repeat refine stq rfl ?_
 refine qst rfl rfl (q_cs rfl w2 rfl rfl) ?_
 repeat refine stq rfl ?_
 refine qst rfl rfl (q_cs rfl w0 rfl rfl) ?_
 repeat refine stq rfl ?_
 refine ps_run (o_slit 1 rfl rfl rfl rfl rfl rfl rfl rfl rfl rfl rfl (by repeat' constructor) rfl ?_)
 repeat refine stq rfl ?_
 refine ps_run (o_app 1 rfl rfl rfl rfl rfl rfl rfl rfl rfl rfl rfl (by repeat' constructor) (two_len rfl rfl) rfl rfl (by simp;omega) (by simp;omega) ?_)
 (repeat ((fail_if_success (with_reducible refine pw_at 2 ?_));refine stx rfl ?_))
 refine pw_ghost (Ghost.data (k := 2) (t := 2) rfl rfl rfl rfl) ?_
 refine pw_ghost (Ghost.data (k := 1003) (t := 3) rfl rfl rfl rfl) ?_
 repeat refine stq rfl ?_
 rw [← hrow] at hc
 refine qst rfl rfl (q_cp rfl hc rfl rfl rfl) ?_
 repeat refine stq rfl ?_
 exact end1b rfl rfl rfl
end Go.Pv


set_option maxHeartbeats 2000000
namespace Go.Pv
attribute [local irreducible] PWP POps PQuiet PSem XThen XBlock RetPost InlPost
open Go.Proofs
theorem bn_pr (s : SR) (t : Rat) (k : Nat) : prB (bn s t k) = (s.k.s k - (s.c.val + t * (s.x : Rat)),s.k.m k - befQ s.k.m k) := by
 rw [prB,bn,ofQ_val,ofQ_val];rfl
theorem bnL_pr (b : BR) (t : Rat) : (bnL b.l t).map prB = (bd b).bnds t := by
 rw [bnL,Bd.bnds,List.map_flatMap]
 show _ = (List.range b.l.length).flatMap ((bd b).bnd1 t)
 have e : ∀ s : SR,(bnS t s).map prB = (List.range s.k.S.length).map fun k => (s.k.s k - (s.c.val + t * (s.x : Rat)),s.k.m k - befQ s.k.m k) := by
  intro s
  rw [bnS,List.map_map]
  exact List.map_congr_left fun k _ => bn_pr s t k
 have key : ∀ (l : List SR),(l.flatMap fun s => (bnS t s).map prB) = (List.range l.length).flatMap fun i => (bnS t (l.getD i dS)).map prB := by
  intro l
  induction l with
  |nil => rfl
  |cons x l ih =>
   rw [List.flatMap_cons,ih,List.length_cons,List.range_succ_eq_map,List.flatMap_cons,List.flatMap_map]
   rfl
 rw [key]
 refine congrArg (fun f => (List.range b.l.length).flatMap f) (funext fun i => ?_)
 rw [e]
 rfl
theorem stl_least {b : BR} (hb : b.Ok) {t : Rat} (hex : ∃ z,(bd b).w ≤ (bd b).F z t) : (bd b).Least (stlQ b t) t := by
 refine Bd.settled_least (bd_ok hb) hex ?_ ?_
 ·rw [← bnL_pr]
  exact (sortV_perm atB (bnL b.l t)).map prB
 ·rw [bnO,List.pairwise_map]
  exact sortV_sorted atB (bnL b.l t)
theorem stl_sg {b : BR} (hb : b.Ok) {t : Rat} (hex : ∃ z,(bd b).w ≤ (bd b).F z t) : stlQ b t = (bd b).sg t := (Bd.sg_eq (stl_least hb hex)).symm
theorem inl_L {b : BR} (z t : Rat) : (bd b).Inl ((bd b).pL z t) z t := fun i hi => plI_in
theorem stl_hq {b : BR} (hb : b.Ok) {t : Rat} {m : Nat} (ht : HQ t m) (hex : ∃ z,(bd b).w ≤ (bd b).F z t) : HQ (stlQ b t) (m + 5000) := by
 have hl := stl_least hb hex
 have hK := hl.K (bd_ok hb) (inl_L _ _)
 have hz := Bd.ln_at (bd_ok hb) hl.1 (inl_L (b := b) (stlQ b t) t).c hK
 rw [hz,Bd.ln]
 have hw : Zb b.w := zb_i64 hb.lim.w.1 hb.lim.w.2
 have wq : HQ ((bd b).w) 4 := HQ.int
 have hpn : ∀ i,i < b.l.length → (bd b).pL (stlQ b t) t i ≤ (bd b).n i := fun i hi => (inl_L (b := b) (stlQ b t) t i hi).1
 have fo := Fo_hq hb hpn
 have kc := Kc_hq hb ((bd b).pL (stlQ b t) t)
 have kh := Kh_hq hb ((bd b).pL (stlQ b t) t)
 exact (@HQ.div _ _ _ 300 (@HQ.sub _ _ _ _ (@HQ.sub _ _ 4 4100 wq fo) (@HQ.mul _ _ 300 m kc ht)) kh).mono (by omega)
theorem stl_va {b : BR} (hb : b.Ok) {t : Rat} {m : Nat} (ht : HQ t m) (hex : ∃ z,(bd b).w ≤ (bd b).F z t) : Va ⟨ofQ (stlQ b t),ofQ t⟩ (stlQ b t) t (m + 5000) m := ⟨Vq.ofQ (h := stl_hq hb ht hex),Vq.ofQ (h := ht)⟩
theorem excessS_ret {b : BR} (hb : b.Ok) {t : Rat} {m : Nat} (ht : HQ t m) (hm : m ≤ 20000) (hex : ∃ z,(bd b).w ≤ (bd b).F z t) : Ret Tryz.prog .shared 164 [.agg (eB b),.agg (eA ⟨ofQ (stlQ b t),ofQ t⟩)] (.agg (eR (ofQ ((bd b).E t)))) := by
 have := excess_ret b hb ⟨ofQ (stlQ b t),ofQ t⟩ (ha := stl_va hb ht hex) (by omega)
 rwa [show (bd b).e (stlQ b t) t = (bd b).E t by rw [Bd.E,stl_sg hb hex]] at this
theorem signE_ret {b : BR} (hb : b.Ok) {t : Rat} {m : Nat} (ht : HQ t m) (hm : m ≤ 20000) (hex : ∃ z,(bd b).w ≤ (bd b).F z t) : Ret Tryz.prog .shared 98 [.agg (eR (ofQ ((bd b).E t)))] (I (sgn ((bd b).E t))) := by
 have h1 := e_hq hb (stl_hq hb ht hex) ht
 rw [show (bd b).e (stlQ b t) t = (bd b).E t by rw [Bd.E,stl_sg hb hex]] at h1
 exact signF (ofQ ((bd b).E t)) (hx := Vq.ofQ (h := h1)) (by omega)
theorem guessS_ret {b : BR} (hb : b.Ok) {t : Rat} {m : Nat} (ht : HQ t m) (hm : m ≤ 20000) (hex : ∃ z,(bd b).w ≤ (bd b).F z t) : Ret Tryz.prog .shared 167 [.agg (eB b),.agg (eA ⟨ofQ (stlQ b t),ofQ t⟩)] (gsR ((bd b).guess ((bd b).sg t) t)) := by
 have := guess_ret b hb ⟨ofQ (stlQ b t),ofQ t⟩ (ha := stl_va hb ht hex) (by omega)
 rwa [← stl_sg hb hex]
end Go.Pv


set_option maxHeartbeats 2000000
namespace Go.Pv
attribute [local irreducible] PWP POps PQuiet PSem XThen XBlock RetPost InlPost
open Go.Proofs
def p2 (k : Nat) : Rat := ((2 ^ k : Nat) : Int)
theorem p2_succ (k : Nat) : p2 (k + 1) = p2 k + p2 k := by
 rw [p2,p2,Nat.pow_succ,show ((2 ^ k * 2 : Nat) : Int) = ((2 ^ k : Nat) : Int) + ((2 ^ k : Nat) : Int) by omega]
 push_cast
 rfl
theorem p2_hq {k : Nat} : HQ (p2 k) (k / 16 + 1) := by
 refine ⟨hq_int ?_ (by omega)⟩
 rw [Int.natAbs_natCast,show (65536 : Nat) = 2 ^ 16 by decide,← Nat.pow_mul]
 exact Nat.pow_lt_pow_right (by decide) (by omega)
theorem dbl_neg {b : Bd} {n : Nat} {w : Rat} : b.dbl (-1) (n + 1) w = if 0 < b.E (-w) then b.dbl (-1) n (w + w) else some w := by
 rw [Bd.dbl]
 have e : (-1 : Rat) * w = -w := by grind
 rw [e]
 by_cases h : 0 < b.E (-w)
 ·rw [if_pos h,if_pos (by grind)]
 ·rw [if_neg h,if_neg (by grind)]
theorem dbl_pos {b : Bd} {n : Nat} {w : Rat} : b.dbl 1 (n + 1) w = if b.E w < 0 then b.dbl 1 n (w + w) else some w := by
 rw [Bd.dbl]
 have e : (1 : Rat) * w = w := by grind
 rw [e]
 by_cases h : b.E w < 0
 ·rw [if_pos h,if_pos (by grind)]
 ·rw [if_neg h,if_neg (by grind)]
end Go.Pv


set_option maxHeartbeats 2000000
namespace Go.Pv
attribute [local irreducible] PWP POps PQuiet PSem XThen XBlock RetPost InlPost
open Go.Proofs
def Dy (N j : Nat) (t : Rat) : Prop := ∃ a : Int,t = (a : Rat) / ((2 ^ j : Nat) : Int) ∧ a.natAbs ≤ 2 ^ (j + N)
theorem two_ne (j : Nat) : (((2 ^ j : Nat) : Int)) ≠ 0 := by have := Nat.two_pow_pos j;omega
theorem Dy.hq {N j : Nat} {t : Rat} (h : Dy N j t) : HQ t ((j + N) / 16 + 1) := by
 obtain ⟨a,rfl,ha⟩ := h
 have key : 2 ^ (j + N) < 65536 ^ ((j + N) / 16 + 1) := by
  rw [show (65536 : Nat) = 2 ^ 16 by decide,← Nat.pow_mul]
  exact Nat.pow_lt_pow_right (by decide) (by omega)
 have h2 : 2 ^ j ≤ 2 ^ (j + N) := Nat.pow_le_pow_right (by decide) (by omega)
 exact ⟨hq_quo (two_ne j) (by omega) (by rw [Int.natAbs_natCast];omega)⟩
theorem Dy.mid {N j : Nat} {lo hi : Rat} (h1 : Dy N j lo) (h2 : Dy N j hi) : Dy N (j + 1) ((lo + hi) / 2) := by
 obtain ⟨a,rfl,ha⟩ := h1
 obtain ⟨c,rfl,hc⟩ := h2
 refine ⟨a + c,?_,?_⟩
 ·have e : (((2 ^ (j + 1) : Nat) : Int) : Rat) = 2 * (((2 ^ j : Nat) : Int) : Rat) := by
   rw [Nat.pow_succ,show ((2 ^ j * 2 : Nat) : Int) = 2 * ((2 ^ j : Nat) : Int) by omega];push_cast;rfl
  have hn : (((2 ^ j : Nat) : Int) : Rat) ≠ 0 := by have := two_ne j;exact_mod_cast this
  rw [e]
  push_cast
  generalize (((2 ^ j : Nat) : Int) : Rat) = D at *
  grind
 ·rw [show j + 1 + N = (j + N) + 1 by omega,Nat.pow_succ]
  omega
theorem Dy.up {N j : Nat} {t : Rat} (h : Dy N j t) : Dy N (j + 1) t := by
 have := Dy.mid h h
 rwa [show (t + t) / 2 = t by grind] at this
noncomputable def f3 (b : Bd) : List Rat → Option (Rat × Rat)
 |[] => none
 |t :: r => match b.at1 t with
  |some x => some x
  |none => f3 b r
theorem fst3_f3 (b : Bd) (lo hi : Rat) : b.fst3 lo hi = f3 b [0,lo,hi] := by
 rw [Bd.fst3,f3,f3,f3,f3]
 cases b.at1 0 <;> cases b.at1 lo <;> cases b.at1 hi <;> rfl
set_option maxRecDepth 20000 in
theorem equil_ret (b : BR) (hb : b.Ok) (h19 : ∀ t,(bnL b.l t).length ≤ 19) (hex : ∀ t,∃ z,(bd b).w ≤ (bd b).F z t) {N : Nat} (hN : N ≤ 150000) {x : Rat × Rat} (hx : (bd b).eqQ N = some x) : Ret Tryz.prog .shared 120 [.agg (eB b)] (.agg (eA ⟨ofQ x.1,ofQ x.2⟩)) := by
 have w1 := wholeF 1 ⟨by decide,by decide⟩
 have wm := wholeF (-1) ⟨by decide,by decide⟩
 rw [show (((1 : Int) : Int) : Rat) = p2 0 from rfl] at w1
 rw [show (((-1 : Int) : Int) : Rat) = -p2 0 by rw [show p2 0 = 1 from rfl];rfl] at wm
 rw [Bd.eqQ] at hx
 obtain ⟨Wl,hWl⟩ : ∃ W,(bd b).dbl (-1) N 1 = some W := by
  cases h : (bd b).dbl (-1) N 1 with
  |none => rw [h] at hx;cases hx
  |some W => exact ⟨W,rfl⟩
 obtain ⟨Wh,hWh⟩ : ∃ W,(bd b).dbl 1 N 1 = some W := by
  cases h : (bd b).dbl 1 N 1 with
  |none => rw [hWl,h] at hx;cases hx
  |some W => exact ⟨W,rfl⟩
 rw [hWl,hWh] at hx
 simp only at hx
 have row : ∀ (t : Rat) (m : Nat),HQ t m → m ≤ 20000 → Ret Tryz.prog .shared 165 [.agg (eB b),.agg (eR (ofQ t))] (.agg (eA ⟨ofQ (stlQ b t),ofQ t⟩)) ∧ Ret Tryz.prog .shared 164 [.agg (eB b),.agg (eA ⟨ofQ (stlQ b t),ofQ t⟩)] (.agg (eR (ofQ ((bd b).E t)))) ∧ Ret Tryz.prog .shared 98 [.agg (eR (ofQ ((bd b).E t)))] (I (sgn ((bd b).E t))) := fun t m ht hm =>
  ⟨settled_ret b hb (h19 t) (ofQ t) (ht := Vq.ofQ (h := ht)) (by omega),excessS_ret hb ht hm (hex t),signE_ret hb ht hm (hex t)⟩
 refine Ret.of_pwp layOk mixed Go.Proofs.Tryz.func120 rfl (by decide) rfl rfl ?_
 repeat refine stq rfl ?_
 refine qst rfl rfl (q_cs rfl w1 rfl rfl) ?_
 repeat refine stq rfl ?_
 refine qst rfl rfl (q_cs rfl wm rfl rfl) ?_
 repeat refine stq rfl ?_
 refine qst rfl rfl (q_cs rfl w1 rfl rfl) ?_
 repeat refine stq rfl ?_
 refine pw_loop (fun k : Nat => k < N ∧ (bd b).dbl (-1) (N - k) (p2 k) = some Wl) (fun k => [(1,.ptr 1 1 0 0),(2,.ptr 2 1 0 0),(3,.ptr 3 1 0 0),(4,.ptr 4 1 0 0),(5,.ptr 5 1 0 0)])
  (fun k => [(1,1,⟨29,6,[eB b],2⟩),(2,1,⟨40,8,[zN ++ zN],2⟩),(3,1,⟨26,4,[eR (ofQ (p2 k))],2⟩),(4,1,⟨26,4,[eR (ofQ (-p2 k))],2⟩),(5,1,⟨26,4,[eR (ofQ (p2 0))],2⟩)]) (fun k => N - k) 0
  ⟨by rcases Nat.eq_zero_or_pos N with h | h;· subst h;cases hWl
      exact h,hWl⟩ ⟨rfl,rfl,rfl,rfl,rfl,rfl,rfl,rfl,rfl,rfl,trivial⟩ ?_
 intro k s ⟨hk,hd⟩
 obtain ⟨j,hj⟩ : ∃ j,N - k = j + 1 := ⟨N - k - 1,by omega⟩
 rw [hj,dbl_neg] at hd
 have hq : HQ (p2 k) 10000 := p2_hq.mono (by omega)
 have hqn : HQ (-p2 k) 10000 := @HQ.neg _ _ hq
 obtain ⟨r1,r2,r3⟩ := row (-p2 k) 10000 hqn (by decide)
 have hsg := sgn_gt ((bd b).E (-p2 k))
 have n1 := addR (ofQ (p2 k)) (ofQ (p2 k)) (hx := Vq.ofQ (h := hq)) (hy := Vq.ofQ (h := hq)) (by decide) (by decide)
 rw [← p2_succ] at n1
 have hq1 : HQ (p2 (k + 1)) 10000 := p2_hq.mono (by omega)
 have n2 := negF (ofQ (p2 (k + 1))) (hx := Vq.ofQ (h := hq1)) (by decide)
 rw [← p2_succ] at hd
 repeat refine stq rfl ?_
 refine pw_draw 7 [19,20,21,22,23,24,25] (by decide +kernel) ?_
 repeat refine stq rfl ?_
 refine qst rfl rfl (q_cs rfl r1 rfl rfl) ?_
 repeat refine stq rfl ?_
 refine qst rfl rfl (q_cs rfl r2 rfl rfl) ?_
 repeat refine stq rfl ?_
 refine qst rfl rfl (q_cp rfl r3 rfl rfl rfl) ?_
 repeat refine stq rfl ?_
 refine pw_cond rfl (fun h => ?_) (fun h => ?_)
 ·have h1 := hsg.1 (of_decide_eq_true h)
  clear h
  rw [if_pos h1] at hd
  repeat refine stq rfl ?_
  refine qst rfl rfl (q_cs rfl n1 rfl rfl) ?_
  repeat refine stq rfl ?_
  refine qst rfl rfl (q_cs rfl n2 rfl rfl) ?_
  repeat refine stq rfl ?_
  have hk1 : k + 1 < N := by
   rcases Nat.lt_or_ge (k + 1) N with h | h
   ·exact h
   ·rw [show j = 0 by omega] at hd;cases hd
  have hd1 : (bd b).dbl (-1) (N - (k + 1)) (p2 (k + 1)) = some Wl := by rw [show N - (k + 1) = j by omega];exact hd
  exact ⟨k + 1,⟨hk1,hd1⟩,by omega,rfl,rfl,rfl,rfl,rfl,rfl,rfl,rfl,rfl,rfl,trivial⟩
 ·have h1 : ¬ 0 < (bd b).E (-p2 k) := fun h2 => (of_decide_eq_false h) (hsg.2 h2)
  clear h
  rw [if_neg h1] at hd
  cases hd
  clear hWl hj r1 r2 r3 hsg n1 n2 hq1
  repeat refine stq rfl ?_
  refine qst rfl rfl (q_cs rfl w1 rfl rfl) ?_
  repeat refine stq rfl ?_
  refine pw_loop (fun k' : Nat => k' < N ∧ (bd b).dbl 1 (N - k') (p2 k') = some Wh) (fun k' => [(1,.ptr 1 1 0 0),(2,.ptr 2 1 0 0),(3,.ptr 3 1 0 0),(4,.ptr 4 1 0 0),(5,.ptr 5 1 0 0)])
   (fun k' => [(1,1,⟨29,6,[eB b],2⟩),(2,1,⟨40,8,[zN ++ zN],2⟩),(3,1,⟨26,4,[eR (ofQ (p2 k'))],2⟩),(4,1,⟨26,4,[eR (ofQ (-p2 k))],2⟩),(5,1,⟨26,4,[eR (ofQ (p2 k'))],2⟩)]) (fun k' => N - k') 0
   ⟨by omega,hWh⟩ ⟨rfl,rfl,rfl,rfl,rfl,rfl,rfl,rfl,rfl,rfl,trivial⟩ ?_
  intro q s2 ⟨hk',hd⟩
  obtain ⟨j,hj⟩ : ∃ j,N - q = j + 1 := ⟨N - q - 1,by omega⟩
  rw [hj,dbl_pos] at hd
  have hqq : HQ (p2 q) 10000 := p2_hq.mono (by omega)
  obtain ⟨r1,r2,r3⟩ := row (p2 q) 10000 hqq (by decide)
  have hsg := sgn_lt ((bd b).E (p2 q))
  have n1 := addR (ofQ (p2 q)) (ofQ (p2 q)) (hx := Vq.ofQ (h := hqq)) (hy := Vq.ofQ (h := hqq)) (by decide) (by decide)
  rw [← p2_succ] at n1
  rw [← p2_succ] at hd
  repeat refine stq rfl ?_
  refine pw_draw 7 [32,33,34,35,36,37,38] (by decide +kernel) ?_
  repeat refine stq rfl ?_
  refine qst rfl rfl (q_cs rfl r1 rfl rfl) ?_
  repeat refine stq rfl ?_
  refine qst rfl rfl (q_cs rfl r2 rfl rfl) ?_
  repeat refine stq rfl ?_
  refine qst rfl rfl (q_cp rfl r3 rfl rfl rfl) ?_
  repeat refine stq rfl ?_
  refine pw_cond rfl (fun h => ?_) (fun h => ?_)
  ·have h1 := hsg.1 (of_decide_eq_true h)
   clear h
   rw [if_pos h1] at hd
   repeat refine stq rfl ?_
   refine qst rfl rfl (q_cs rfl n1 rfl rfl) ?_
   repeat refine stq rfl ?_
   have hk1 : q + 1 < N := by
    rcases Nat.lt_or_ge (q + 1) N with h | h
    ·exact h
    ·rw [show j = 0 by omega] at hd;cases hd
   have hd1 : (bd b).dbl 1 (N - (q + 1)) (p2 (q + 1)) = some Wh := by rw [show N - (q + 1) = j by omega];exact hd
   exact ⟨q + 1,⟨hk1,hd1⟩,by omega,rfl,rfl,rfl,rfl,rfl,rfl,rfl,rfl,rfl,rfl,trivial⟩
  ·have h1 : ¬ (bd b).E (p2 q) < 0 := fun h2 => (of_decide_eq_false h) (hsg.2 h2)
   clear h
   rw [if_neg h1] at hd
   cases hd
   clear hWh hj r1 r2 r3 hsg n1
   have w0 := wholeF 0 ⟨by decide,by decide⟩
   rw [show (((0 : Int)) : Rat) = 0 from rfl] at w0
   rw [fst3_f3] at hx
   have hL : ∀ t ∈ [0,-p2 k,p2 q],HQ t 10000 := by
    intro t ht
    simp at ht
    rcases ht with rfl | rfl | rfl
    ·exact HQ.zero.mono (by decide)
    ·exact hqn
    ·exact hqq
   repeat refine stq rfl ?_
   refine pw_draw3 [46] [3,4] (by decide +kernel) ?_
   repeat refine stq rfl ?_
   refine qst rfl rfl (q_cs rfl w0 rfl rfl) ?_
   repeat refine stq rfl ?_
   refine z3e rfl rfl rfl (o_slit 1 rfl rfl rfl rfl rfl rfl rfl rfl rfl rfl rfl (by repeat' constructor) rfl ⟨offz rfl,?_⟩)
   repeat refine stq rfl ?_
   have hrows : ([0,-p2 k,p2 q] : List Rat).map (fun t => eR (ofQ t)) = [eR (ofQ 0),eR (ofQ (-p2 k)),eR (ofQ (p2 q))] := rfl
   refine pw_norm [(1,.ptr 1 1 0 0),(2,.ptr 2 1 0 0),(4,.ptr 4 1 0 0),(5,.ptr 5 1 0 0),(46,.als 46 ((s2.own 46).1 + 1) 0 3),(47,I 3),(48,I ((0 : Nat) : Int))]
    [(1,1,⟨29,6,[eB b],2⟩),(2,1,⟨40,8,[zN ++ zN],2⟩),(4,1,⟨26,4,[eR (ofQ (-p2 k))],2⟩),(5,1,⟨26,4,[eR (ofQ (p2 q))],2⟩),(46,(s2.own 46).1 + 1,⟨26,4,[eR (ofQ 0),eR (ofQ (-p2 k)),eR (ofQ (p2 q))],1⟩)]
    ⟨rfl,rfl,rfl,rfl,rfl,rfl,rfl,rfl,rfl,rfl,rfl,rfl,trivial⟩ ?_
   generalize (s2.own 46).1 + 1 = g
   rw [← hrows]
   intro s3
   generalize hLL : ([0,-p2 k,p2 q] : List Rat) = T3 at *
   have hT3 : T3.length = 3 := by rw [← hLL];rfl
   refine pw_loop (fun i : Nat => i ≤ 3 ∧ (match f3 (bd b) (T3.drop i) with | some x => some x | none => (bd b).bis N (-p2 k) (p2 q)) = some x) (fun i => [(1,.ptr 1 1 0 0),(2,.ptr 2 1 0 0),(4,.ptr 4 1 0 0),(5,.ptr 5 1 0 0),(46,.als 46 g 0 3),(47,I 3),(48,I (i : Nat))])
    (fun i => [(1,1,⟨29,6,[eB b],2⟩),(2,1,⟨40,8,[zN ++ zN],2⟩),(4,1,⟨26,4,[eR (ofQ (-p2 k))],2⟩),(5,1,⟨26,4,[eR (ofQ (p2 q))],2⟩),(46,g,⟨26,4,T3.map (fun t => eR (ofQ t)),1⟩)]) (fun i => 3 - i) 0
    ⟨Nat.zero_le _,hx⟩ ⟨rfl,rfl,rfl,rfl,rfl,rfl,rfl,rfl,rfl,rfl,rfl,rfl,trivial⟩ ?_
   intro i s4 ⟨hi,hF⟩
   repeat refine stq rfl ?_
   refine pw_cond rfl (fun h => ?_) (fun h => ?_)
   ·have hlt : i < 3 := by have := of_decide_eq_true h;omega
    clear h
    obtain ⟨t,ht⟩ := get_lt (show i < T3.length by omega)
    have hrow : (T3.map (fun t => eR (ofQ t)))[i]? = some (eR (ofQ t)) := by rw [List.getElem?_map,ht];rfl
    have htq := hL t (List.mem_of_getElem? ht)
    have hw : IntKind.i64.wrap (((i : Nat) : Int) + 1) = ((i + 1 : Nat) : Int) := by rw [wrap_i64 (by omega) (by omega)];omega
    obtain ⟨r1,r2,r3⟩ := row t 10000 htq (by decide)
    have hgs := guessS_ret hb htq (by decide) (hex t)
    have hdr : f3 (bd b) (T3.drop i) = match (bd b).at1 t with | some x => some x | none => f3 (bd b) (T3.drop (i + 1)) := by
     obtain ⟨hl1,h2⟩ := List.getElem?_eq_some_iff.1 ht
     rw [List.drop_eq_getElem_cons hl1,h2,f3]
    rw [hdr,Bd.at1,← stl_sg hb (hex t)] at hF
    rw [← stl_sg hb (hex t)] at hgs
    repeat refine stq rfl ?_
    refine qst rfl rfl (q_idxA rfl rfl rfl rfl rfl rfl rfl (by omega) (by omega)) ?_
    rw [Int.toNat_natCast,Nat.zero_add i]
    refine qst rfl rfl (q_ldp rfl rfl rfl hrow rfl) ?_
    repeat refine stq rfl ?_
    refine qst rfl rfl (q_cs rfl r1 rfl rfl) ?_
    repeat refine stq rfl ?_
    refine qst rfl rfl (q_cs rfl r2 rfl rfl) ?_
    repeat refine stq rfl ?_
    refine qst rfl rfl (q_cp rfl r3 rfl rfl rfl) ?_
    repeat refine stq rfl ?_
    have hs0 := sgn_eq ((bd b).E t)
    refine pw_cond rfl (fun h => ?_) (fun h => ?_)
    ·have h1 := hs0.1 (of_decide_eq_true h)
     clear h
     rw [if_pos h1] at hF
     simp only [Option.some.injEq] at hF
     subst hF
     repeat refine stq rfl ?_
     exact endm rfl (by repeat' constructor) rfl (by repeat' constructor) rfl
    ·have h1 : ¬ (bd b).E t = 0 := fun h2 => (of_decide_eq_false h) (hs0.2 h2)
     clear h
     rw [if_neg h1] at hF
     cases hgg : (bd b).guess (stlQ b t) t with
     |none =>
      rw [hgg] at hgs hF
      simp only at hF
      rw [gsR] at hgs
      repeat refine stq rfl ?_
      refine qst rfl rfl (q_cs rfl hgs rfl rfl) ?_
      repeat refine stq rfl ?_
      exact ⟨i + 1,⟨by omega,hF⟩,by omega,rfl,rfl,rfl,rfl,rfl,rfl,congrArg I hw,rfl,rfl,rfl,rfl,rfl,trivial⟩
     |some y =>
      rw [hgg] at hgs hF
      simp only [Option.some.injEq] at hF
      subst hF
      rw [gsR] at hgs
      repeat refine stq rfl ?_
      refine qst rfl rfl (q_cs rfl hgs rfl rfl) ?_
      repeat refine stq rfl ?_
      exact endm rfl (by repeat' constructor) rfl (by repeat' constructor) rfl
   ·have hie : i = 3 := by have := of_decide_eq_false h;omega
    clear h
    rw [hie,List.drop_eq_nil_of_le (by omega),f3] at hF
    simp only at hF
    have hd0 : Dy N 0 (-p2 k) := ⟨-((2 ^ k : Nat) : Int),by rw [p2];push_cast;grind,by rw [Int.natAbs_neg,Int.natAbs_natCast];exact Nat.pow_le_pow_right (by decide) (by omega)⟩
    have hd1 : Dy N 0 (p2 q) := ⟨((2 ^ q : Nat) : Int),by rw [p2];push_cast;grind,by rw [Int.natAbs_natCast];exact Nat.pow_le_pow_right (by decide) (by omega)⟩
    have w2 := wholeF 2 ⟨by decide,by decide⟩
    rw [show (((2 : Int)) : Rat) = 2 from rfl] at w2
    have v2 : Vq (ofQ 2) 2 4 := Vq.ofQ (h := HQ.two)
    repeat refine stq rfl ?_
    refine pw_loop (fun u : Nat × Rat × Rat => u.1 ≤ N ∧ (bd b).bis (N - u.1) u.2.1 u.2.2 = some x ∧ Dy N u.1 u.2.1 ∧ Dy N u.1 u.2.2) (fun u => [(1,.ptr 1 1 0 0),(2,.ptr 2 1 0 0),(4,.ptr 4 1 0 0),(5,.ptr 5 1 0 0)])
     (fun u => [(1,1,⟨29,6,[eB b],2⟩),(2,1,⟨40,8,[zN ++ zN],2⟩),(4,1,⟨26,4,[eR (ofQ u.2.1)],2⟩),(5,1,⟨26,4,[eR (ofQ u.2.2)],2⟩)]) (fun u => N - u.1) (0,-p2 k,p2 q)
     ⟨Nat.zero_le _,hF,hd0,hd1⟩ ⟨rfl,rfl,rfl,rfl,rfl,rfl,rfl,rfl,trivial⟩ ?_
    rintro ⟨j,lo,hi⟩ s5 ⟨hj,hB,hlo,hhi⟩
    simp only at hj hB hlo hhi
    dsimp only
    obtain ⟨n,hn⟩ : ∃ n,N - j = n + 1 := by
     rcases Nat.eq_zero_or_pos (N - j) with h | h
     ·rw [h] at hB;cases hB
     ·exact ⟨N - j - 1,by omega⟩
    rw [hn,Bd.bis] at hB
    have hm := hlo.mid hhi
    have hl2 := hlo.up
    have hh2 := hhi.up
    have ql := hlo.hq
    have qh := hhi.hq
    have qm := hm.hq
    have a1 := addR (ofQ lo) (ofQ hi) (hx := Vq.ofQ (h := ql)) (hy := Vq.ofQ (h := qh)) (by omega) (by omega)
    have vs : Vq (ofQ (lo + hi)) (lo + hi) ((j + N) / 16 + 1 + ((j + N) / 16 + 1) + 1) := Vq.ofQ (h := @HQ.add _ _ _ _ ql qh)
    have a2 := overF (ofQ (lo + hi)) (ofQ 2) (hx := vs) (hy := v2) (by omega) (by decide) (by decide)
    obtain ⟨r1,r2,r3⟩ := row ((lo + hi) / 2) _ qm (by omega)
    have hgs := guessS_ret hb qm (by omega) (hex ((lo + hi) / 2))
    rw [Bd.at1,← stl_sg hb (hex ((lo + hi) / 2))] at hB
    rw [← stl_sg hb (hex ((lo + hi) / 2))] at hgs
    generalize (lo + hi) / 2 = t at *
    have hs0 := sgn_eq ((bd b).E t)
    have hs1 := sgn_lt ((bd b).E t)
    repeat refine stq rfl ?_
    refine qst rfl rfl (q_cs rfl a1 rfl rfl) ?_
    repeat refine stq rfl ?_
    refine qst rfl rfl (q_cs rfl w2 rfl rfl) ?_
    repeat refine stq rfl ?_
    refine qst rfl rfl (q_cs rfl a2 rfl rfl) ?_
    repeat refine stq rfl ?_
    refine qst rfl rfl (q_cs rfl r1 rfl rfl) ?_
    repeat refine stq rfl ?_
    refine qst rfl rfl (q_cs rfl r2 rfl rfl) ?_
    repeat refine stq rfl ?_
    refine qst rfl rfl (q_cp rfl r3 rfl rfl rfl) ?_
    repeat refine stq rfl ?_
    refine pw_cond rfl (fun h => ?_) (fun h => ?_)
    ·have h1 := hs0.1 (of_decide_eq_true h)
     clear h
     rw [if_pos h1] at hB
     simp only [Option.some.injEq] at hB
     subst hB
     repeat refine stq rfl ?_
     exact endm rfl (by repeat' constructor) rfl (by repeat' constructor) rfl
    ·have h1 : ¬ (bd b).E t = 0 := fun h2 => (of_decide_eq_false h) (hs0.2 h2)
     clear h
     rw [if_neg h1] at hB
     cases hgg : (bd b).guess (stlQ b t) t with
     |none =>
      rw [hgg] at hgs hB
      simp only at hB
      rw [gsR] at hgs
      repeat refine stq rfl ?_
      refine qst rfl rfl (q_cs rfl hgs rfl rfl) ?_
      repeat refine stq rfl ?_
      refine pw_cond rfl (fun h => ?_) (fun h => ?_)
      ·have h2 := hs1.1 (of_decide_eq_true h)
       clear h
       rw [if_pos h2] at hB
       repeat refine stq rfl ?_
       exact ⟨(j + 1,t,hi),⟨by simp only;omega,by simp only;rw [show N - (j + 1) = n by omega];exact hB,hm,hh2⟩,by simp only;omega,rfl,rfl,rfl,rfl,rfl,rfl,rfl,rfl,trivial⟩
      ·have h2 : ¬ (bd b).E t < 0 := fun h3 => (of_decide_eq_false h) (hs1.2 h3)
       clear h
       rw [if_neg h2] at hB
       repeat refine stq rfl ?_
       exact ⟨(j + 1,lo,t),⟨by simp only;omega,by simp only;rw [show N - (j + 1) = n by omega];exact hB,hl2,hm⟩,by simp only;omega,rfl,rfl,rfl,rfl,rfl,rfl,rfl,rfl,trivial⟩
     |some y =>
      rw [hgg] at hgs hB
      simp only [Option.some.injEq] at hB
      subst hB
      rw [gsR] at hgs
      repeat refine stq rfl ?_
      refine qst rfl rfl (q_cs rfl hgs rfl rfl) ?_
      repeat refine stq rfl ?_
      exact endm rfl (by repeat' constructor) rfl (by repeat' constructor) rfl
end Go.Pv


set_option maxHeartbeats 2000000
namespace Go.Pv
attribute [local irreducible] PWP POps PQuiet PSem XThen XBlock RetPost InlPost
open Go.Proofs
theorem compact_mem {l : List Int} {x : Int} (h : x ∈ l) : x ∈ Lib.compact l := by
 have key : ∀ n (hn : n < l.length),∃ m,∃ hm : m < l.length,l[m] = l[n] ∧ Lib.keeps l.toArray m = true := by
  intro n
  induction n with
  |zero => intro hn;exact ⟨0,hn,rfl,by simp [Lib.keeps]⟩
  |succ n ih =>
   intro hn
   by_cases he : l[n + 1] = l[n]
   ·obtain ⟨m,hm,h1,h2⟩ := ih (by omega)
    exact ⟨m,hm,h1.trans he.symm,h2⟩
   ·refine ⟨n + 1,hn,rfl,?_⟩
    rw [Lib.keeps,decide_eq_true_eq]
    right
    simp only [List.getElem!_toArray,Nat.add_sub_cancel]
    rw [getElem!_pos l (n + 1) hn,getElem!_pos l n (by omega)]
    exact he
 obtain ⟨n,hn,hx⟩ := List.mem_iff_getElem.1 h
 obtain ⟨m,hm,h1,h2⟩ := key n hn
 rw [Lib.compact,Lib.compactUpTo]
 refine List.mem_map.2 ⟨m,List.mem_filter.2 ⟨List.mem_range.2 hm,h2⟩,?_⟩
 simp only [List.getElem!_toArray]
 rw [getElem!_pos l m hm,h1,hx]
theorem mem_places {l : List SR} {s : SR} (h : s ∈ l) : s.x ∈ placesL l := by
 rw [placesL]
 refine compact_mem ?_
 have : s.x ∈ l.map (·.x) := List.mem_map.2 ⟨s,h,rfl⟩
 exact (List.mergeSort_perm _ _).mem_iff.2 this
def NoRef (b : BR) : Prop := refF b downA = false ∧ ∀ r ∈ turnA b.l,refF b r = false
theorem refB_iff {b : BR} {A B : Rat} : refB b A B = true ↔ AllLim b.l A B b.l.length ∧ sumN (yT b.l A B) b.l.length < (b.w : Rat) * (A + B * b.a.val) := by
 rw [refB,@decide_eq_true_iff _ (Classical.propDecidable _)]
theorem one_val : (ofQ ((1 : Int) : Rat)).val = 1 := by rw [ofQ_val];rfl
theorem zero_val : (ofQ ((0 : Int) : Rat)).val = 0 := by rw [ofQ_val];rfl
end Go.Pv


set_option maxHeartbeats 2000000
namespace Go.Pv
attribute [local irreducible] PWP POps PQuiet PSem XThen XBlock RetPost InlPost
open Go.Proofs
theorem bal_ref {b : BR} (hb : b.Ok) {z t : Rat} (h : (bd b).Bal z t) (A B : Rat) : refB b A B = false := by
 cases hr : refB b A B with
 |false => rfl
 |true =>
  obtain ⟨h1,h2⟩ := refB_iff.1 hr
  have h3 := Bd.exclude (bd_ok hb) h (A := A) (B := B) h1
  have e : sumN (yT b.l A B) b.l.length = sumN (fun i => if 0 < A + B * (bd b).X i then (bd b).cap i * (A + B * (bd b).X i) else 0) (bd b).N := rfl
  rw [← e] at h3
  have h4 : (b.w : Rat) * (A + B * b.a.val) ≤ sumN (yT b.l A B) b.l.length := h3
  grind
theorem bal_noRef {b : BR} (hb : b.Ok) {z t : Rat} (h : (bd b).Bal z t) : NoRef b := ⟨bal_ref hb h _ _,fun _ _ => bal_ref hb h _ _⟩
end Go.Pv


set_option maxHeartbeats 2000000
namespace Go.Pv
attribute [local irreducible] PWP POps PQuiet PSem XThen XBlock RetPost InlPost
open Go.Proofs
def spS (x : Int) : SR := ⟨x,RR.zero,⟨[0],[ofQ ((2 : Int) : Rat)]⟩⟩
def pdS (x : Int) : SR := ⟨x,RR.zero,⟨[0,10],[ofQ ((5 : Int) : Rat),ofQ ((0 : Int) : Rat)]⟩⟩
def b1 : BR := ⟨40,ofQ ((25 : Int) : Rat),[spS 0,spS 100]⟩
def b2 : BR := ⟨80,ofQ ((75 : Int) : Rat),[pdS 0,pdS 100]⟩
theorem int_sz {z : Int} (h : i64 z) : (ofQ (z : Rat)).sz 12 := ⟨Nat.le_trans (vI h).sz.1 (by decide),Nat.le_trans (vI h).sz.2 (by decide)⟩
theorem zero_sz : RR.zero.sz 12 := ⟨Nat.zero_le _,Nat.zero_le _⟩
theorem spS_lim {x : Int} (hx : i64 x) : (spS x).Lim := by
 refine ⟨hx,zero_sz,⟨fun z hz => ?_,fun m hm => ?_,show 1 ≤ 1000000000 by decide,show 1 ≤ 1000000000 by decide⟩⟩
 ·simp [spS] at hz;subst hz;exact ⟨by decide,by decide⟩
 ·simp only [spS,List.mem_singleton] at hm;subst hm;exact int_sz ⟨by decide,by decide⟩
theorem pdS_lim {x : Int} (hx : i64 x) : (pdS x).Lim := by
 refine ⟨hx,zero_sz,⟨fun z hz => ?_,fun m hm => ?_,show 2 ≤ 1000000000 by decide,show 2 ≤ 1000000000 by decide⟩⟩
 ·simp [pdS] at hz;rcases hz with rfl | rfl <;> exact ⟨by decide,by decide⟩
 ·simp only [pdS,List.mem_cons,List.not_mem_nil,or_false] at hm
  rcases hm with rfl | rfl <;> exact int_sz ⟨by decide,by decide⟩
theorem spS_curve (x : Int) : curveE (spS x).k = 0 := by
 have h : stepE (spS x).k 0 = 0 := by
  rw [stepE,if_neg,if_neg (by omega)]
  simp only [spS,List.getD_cons_zero,ofQ_val]
  decide
 rw [curveE,if_neg (show ¬ 40 < (spS x).k.S.length by simp [spS]),if_neg (show ¬ (spS x).k.M.length ≠ (spS x).k.S.length by simp [spS])]
 show curveF (spS x).k 0 1 = 0
 rw [curveF,if_pos h,curveF]
theorem pdS_curve (x : Int) : curveE (pdS x).k = 0 := by
 have h : stepE (pdS x).k 0 = 0 := by
  rw [stepE,if_neg,if_neg (by omega)]
  simp only [pdS,List.getD_cons_zero,ofQ_val]
  decide
 have h1 : stepE (pdS x).k 1 = 0 := by
  rw [stepE,if_neg,if_neg]
  ·simp [pdS]
  ·simp only [pdS,List.getD_cons_zero,List.getD_cons_succ,ofQ_val]
   decide
 rw [curveE,if_neg (show ¬ 40 < (pdS x).k.S.length by simp [pdS]),if_neg (show ¬ (pdS x).k.M.length ≠ (pdS x).k.S.length by simp [pdS])]
 show curveF (pdS x).k 0 2 = 0
 rw [curveF,if_pos h,curveF,if_pos h1,curveF]
theorem supE_zero {s : SR} (hx : -1000000 ≤ s.x ∧ s.x ≤ 1000000) (hc : s.c = RR.zero) (hk : curveE s.k = 0) : supE s = 0 := by
 rw [supE,if_neg,hk]
 rw [hc,RR.zero_val]
 rintro (h | h)
 ·omega
 ·revert h;decide
theorem b1_chk : bodyE b1 = 0 := by
 rw [bodyE,if_neg]
 ·rw [checkL,if_neg (by decide)]
  show firstE supE [spS 0,spS 100] = 0
  rw [firstE,if_pos (supE_zero ⟨by decide,by decide⟩ rfl (spS_curve _)),firstE,if_pos (supE_zero ⟨by decide,by decide⟩ rfl (spS_curve _)),firstE]
 ·simp only [b1,ofQ_val]
  decide
theorem b2_chk : bodyE b2 = 0 := by
 rw [bodyE,if_neg]
 ·rw [checkL,if_neg (by decide)]
  show firstE supE [pdS 0,pdS 100] = 0
  rw [firstE,if_pos (supE_zero ⟨by decide,by decide⟩ rfl (pdS_curve _)),firstE,if_pos (supE_zero ⟨by decide,by decide⟩ rfl (pdS_curve _)),firstE]
 ·simp only [b2,ofQ_val]
  decide
theorem b1_ok : b1.Ok := by
 refine ⟨⟨⟨by decide,by decide⟩,int_sz ⟨by decide,by decide⟩,fun s hs => ?_,by decide⟩,b1_chk,by decide,fun s hs => ?_⟩
 ·simp only [b1,List.mem_cons,List.not_mem_nil,or_false] at hs
  rcases hs with rfl | rfl <;> exact spS_lim ⟨by decide,by decide⟩
 ·simp only [b1,List.mem_cons,List.not_mem_nil,or_false] at hs
  rcases hs with rfl | rfl <;> decide
theorem b2_ok : b2.Ok := by
 refine ⟨⟨⟨by decide,by decide⟩,int_sz ⟨by decide,by decide⟩,fun s hs => ?_,by decide⟩,b2_chk,by decide,fun s hs => ?_⟩
 ·simp only [b2,List.mem_cons,List.not_mem_nil,or_false] at hs
  rcases hs with rfl | rfl <;> exact pdS_lim ⟨by decide,by decide⟩
 ·simp only [b2,List.mem_cons,List.not_mem_nil,or_false] at hs
  rcases hs with rfl | rfl <;> decide
theorem hq_i (z : Int) (h : i64 z) : hq (z : Rat) 4 := (@HQ.int z (zb_i64 h.1 h.2)).ok
theorem sp_f (x : Int) (z t : Rat) : fQ (spS x) z t = if z + t * (x : Rat) < 0 then 0 else 2 * (z + t * (x : Rat)) := by
 rw [fQ,valQ]
 show sumN (rampQ (spS x).k.s (spS x).k.m (yQ (spS x) z t)) 1 = _
 rw [sumN,sumN,rampQ,yQ,befQ]
 show 0 + (if RR.zero.val + (z + t * (x : Rat)) - ((0 : Int) : Rat) < 0 then 0 else ((ofQ ((2 : Int) : Rat)).val - 0) * (RR.zero.val + (z + t * (x : Rat)) - ((0 : Int) : Rat))) = _
 rw [RR.zero_val,ofQ_val,show ((0 : Int) : Rat) = 0 from rfl,show ((2 : Int) : Rat) = 2 from rfl]
 grind
theorem b1_bal {z t : Rat} : (bd b1).Bal z t ↔ z = 15 ∧ t = -1 / 10 := by
 have e : (bd b1).Bal z t ↔ ((0 + fQ (spS 0) z t) + fQ (spS 100) z t = ((40 : Int) : Rat) ∧ (0 + fQ (spS 0) z t * ((0 : Int) : Rat)) + fQ (spS 100) z t * ((100 : Int) : Rat) = ((40 : Int) : Rat) * (ofQ ((25 : Int) : Rat)).val) := Iff.rfl
 rw [e,sp_f,sp_f,ofQ_val,show ((0 : Int) : Rat) = 0 from rfl,show ((100 : Int) : Rat) = 100 from rfl,show ((40 : Int) : Rat) = 40 from rfl,show ((25 : Int) : Rat) = 25 from rfl]
 constructor
 ·rintro ⟨h1,h2⟩
  grind
 ·rintro ⟨rfl,rfl⟩
  constructor <;> grind
theorem b1_forces : FL b1.l 15 (-1 / 10) = [ofQ 30,ofQ 10] := by
 show [ofQ (fQ (spS 0) 15 (-1 / 10)),ofQ (fQ (spS 100) 15 (-1 / 10))] = _
 rw [sp_f,sp_f,show ((0 : Int) : Rat) = 0 from rfl,show ((100 : Int) : Rat) = 100 from rfl]
 congr 2
 ·grind
 ·congr 2
  grind
theorem b2_places : placesL b2.l = [0,100] := by
 rw [placesL]
 have : sortN (b2.l.map (·.x)) = [0,100] := List.mergeSort_of_pairwise (by decide)
 rw [this]
 decide
theorem pd_cap (x : Int) : capQ (pdS x).k.S.length (pdS x).k.s (pdS x).k.m = 50 := by
 show offQ (pdS x).k.s (pdS x).k.m 2 * (-1) = 50
 rw [offQ,sumN,sumN,sumN,befQ,befQ]
 show (0 + ((ofQ ((5 : Int) : Rat)).val - 0) * ((0 : Int) : Rat) + ((ofQ ((0 : Int) : Rat)).val - (ofQ ((5 : Int) : Rat)).val) * ((10 : Int) : Rat)) * (-1) = 50
 rw [ofQ_val,ofQ_val]
 decide +kernel
theorem pd_lim (x : Int) : befQ (pdS x).k.m (pdS x).k.S.length = 0 := by
 show (ofQ ((0 : Int) : Rat)).val = 0
 rw [ofQ_val];rfl
theorem b2_lim {A B : Rat} : AllLim b2.l A B b2.l.length := by
 intro i hi _
 rcases i with _ | _ | i
 ·exact pd_lim 0
 ·exact pd_lim 100
 ·have : i + 1 + 1 < 2 := hi
  omega
theorem b2_sum (A B : Rat) : sumN (yT b2.l A B) b2.l.length = 0 + (if 0 < A + B * 0 then 50 * (A + B * 0) else 0) + (if 0 < A + B * 100 then 50 * (A + B * 100) else 0) := by
 show sumN (yT b2.l A B) 2 = _
 rw [sumN,sumN,sumN,yT,yT]
 have e0 : xI b2.l 0 = 0 := rfl
 have e1 : xI b2.l 1 = 100 := rfl
 have c0 : cI b2.l 0 = 50 := pd_cap 0
 have c1 : cI b2.l 1 = 50 := pd_cap 100
 rw [e0,e1,c0,c1]
theorem b2_up : refF b2 (upA 0) = true := by
 refine refB_iff.2 ⟨b2_lim,?_⟩
 rw [b2_sum]
 simp only [upA,ofQ_val]
 show (0 : Rat) + (if 0 < (((-0 : Int)) : Rat) + ((1 : Int) : Rat) * 0 then 50 * ((((-0 : Int)) : Rat) + ((1 : Int) : Rat) * 0) else 0) + (if 0 < (((-0 : Int)) : Rat) + ((1 : Int) : Rat) * 100 then 50 * ((((-0 : Int)) : Rat) + ((1 : Int) : Rat) * 100) else 0) < ((80 : Int) : Rat) * ((((-0 : Int)) : Rat) + ((1 : Int) : Rat) * (ofQ ((75 : Int) : Rat)).val)
 rw [ofQ_val]
 decide +kernel
theorem b2_refusal : refusalR b2 = .tup [.agg (eA (upA 0)),I 13] := by
 have h1 : refF b2 downA = false := by
  cases h : refF b2 downA with
  |false => rfl
  |true =>
   obtain ⟨_,h2⟩ := refB_iff.1 h
   rw [b2_sum,show downA.z.val = 1 from one_val,show downA.t.val = 0 from zero_val] at h2
   have h3 : ((80 : Int) : Rat) * (1 + 0 * (ofQ ((75 : Int) : Rat)).val) = 80 := by rw [ofQ_val];decide +kernel
   have h2 : (0 : Rat) + (if 0 < (1 : Rat) + 0 * 0 then 50 * (1 + 0 * 0) else 0) + (if 0 < (1 : Rat) + 0 * 100 then 50 * (1 + 0 * 100) else 0) < ((80 : Int) : Rat) * (1 + 0 * (ofQ ((75 : Int) : Rat)).val) := h2
   rw [h3] at h2
   grind
 have h2 := b2_up
 rw [refusalR,if_neg (by rw [h1];decide),turnA,b2_places]
 show (match (upA 0 :: _).find? (refF b2) with | some r => PV.tup [.agg (eA r),I 13] | none => .tup [.agg (zN ++ zN),I 0]) = _
 rw [List.find?_cons,h2]
end Go.Pv


set_option maxHeartbeats 2000000
namespace Go.Pv
attribute [local irreducible] PWP POps PQuiet PSem XThen XBlock RetPost InlPost
open Go.Proofs
def DataS (s : SR) : Prop := i64 s.x ∧ ∀ z ∈ s.k.S,i64 z
def DataL (l : List SR) : Prop := ∀ s ∈ l,DataS s
def shortS (st : Nat) (s : SR) : Prop := s.k.S.length ≤ st ∧ s.k.M.length ≤ st + 1 ∧ s.c.sz 3 ∧ ∀ m ∈ s.k.M,m.sz 3
def ShortL (l : List SR) (most st : Nat) : Prop := l.length ≤ most ∧ ∀ s ∈ l,shortS st s
theorem RR.sz.mono {x : RR} {n m : Nat} (h : x.sz n) (hm : n ≤ m) : x.sz m := ⟨Nat.le_trans h.1 hm,Nat.le_trans h.2 hm⟩
theorem short_limL {l : List SR} {most st : Nat} (hd : DataL l) (h : ShortL l most st) (hm : most ≤ 1000) (hst : st ≤ 1000) : LimL l := by
 refine ⟨fun s hs => ?_,by have := h.1;omega⟩
 obtain ⟨h1,h2,h3,h4⟩ := h.2 s hs
 exact ⟨(hd s hs).1,h3.mono (by decide),⟨(hd s hs).2,fun m hm => (h4 m hm).mono (by decide),by omega,by omega⟩⟩
theorem short_few {l : List SR} {most st : Nat} (h : ShortL l most st) (hm : most ≤ 12) (hst : st ≤ 8) : FewL l :=
 ⟨Nat.le_trans h.1 hm,fun s hs => Nat.le_trans (h.2 s hs).1 hst⟩
theorem short_ok {b : BR} {most st : Nat} (hw : i64 b.w) (hd : DataL b.l) (ha : b.a.sz 3) (h : ShortL b.l most st) (hm : most ≤ 12) (hst : st ≤ 8) (hc : bodyE b = 0) : b.Ok :=
 ⟨⟨hw,ha.mono (by decide),short_limL hd h (by omega) (by omega)⟩,hc,short_few h hm hst⟩
theorem sz_hq {x : RR} (h : x.sz 3) : hq x.val 4 := SZ.hq (n := 3) ⟨h⟩
theorem short_sz {b : BR} {most st : Nat} (hw : i64 b.w) (hd : DataL b.l) (ha : b.a.sz 3) (h : ShortL b.l most st) (hm : most ≤ 10) (hst : st ≤ 5) (hc : bodyE b = 0) : (bd b).Sz := by
 refine ⟨Nat.le_trans h.1 hm,fun i hi => ?_,fun i hi => ?_,fun i hi => ?_,fun i hi k hk => ?_,fun i hi k hk => ?_,hq_i _ hw,sz_hq ha⟩
 ·exact Nat.le_trans (h.2 _ (getD_mem hi)).1 hst
 ·exact hq_i _ (hd _ (getD_mem hi)).1
 ·exact sz_hq (h.2 _ (getD_mem hi)).2.2.1
 ·exact hq_i _ ((hd _ (getD_mem hi)).2 _ (List.mem_of_getElem? (get_some (d := (0 : Int)) hk)))
 ·have hcu := checkL_curve (body_chk hc).2.2 _ (getD_mem (l := b.l) hi)
  obtain ⟨-,hSM,-,-⟩ := curve_ok hcu
  have hk : k < (b.l.getD i dS).k.S.length := hk
  exact sz_hq ((h.2 _ (getD_mem hi)).2.2.2 _ (List.mem_of_getElem? (get_some (d := RR.zero) (by omega))))
end Go.Pv


set_option maxHeartbeats 2000000
namespace Go.Pv
attribute [local irreducible] PWP POps PQuiet PSem XThen XBlock RetPost InlPost
open Go.Proofs
def zA : AR := ⟨RR.zero,RR.zero⟩
def eSol (a : AR) (F : List RR) : List PV := eA a ++ [.sl (F.map eR)]
def zS : List PV := zN ++ zN ++ [.nil]
theorem WeakL.append {a b c d : List PV} (h1 : WeakL a b) (h2 : WeakL c d) : WeakL (a ++ c) (b ++ d) := by
 induction h1 with
 |nil => exact h2
 |cons h _ ih => exact .cons h ih
structure SQ where
 a : AR
 F : List RR
 r : AR
 e : Int
def SQ.pv (q : SQ) : PV := .tup [.agg (eSol q.a q.F),.agg (eA q.r),I q.e]
def BR.Good (b : BR) : Prop := b.Lim ∧ (bodyE b = 0 → b.Ok ∧ (bd b).Sz ∧ ∀ t,(bnL b.l t).length ≤ 19)
set_option maxRecDepth 20000 in
theorem solve_refd (b : BR) (hb : b.Lim) (h0 : bodyE b = 0) (r : AR) (e : Int) (he : e ≠ 0) (h93 : Ret Tryz.prog .shared 93 [.agg (eB b)] (.tup [.agg (eA r),I e])) : Ret Tryz.prog .shared 41 [.agg (eB b)] (.tup [.agg zS,.agg (eA r),I e]) := by
 have h1 := checkBody_ret b hb
 rw [h0] at h1
 clear h0 hb
 refine Ret.of_pwp layOk mixed Go.Proofs.Tryz.func41 rfl (by decide) rfl rfl ?_
 repeat refine stq rfl ?_
 refine qst rfl rfl (q_cp rfl h1 rfl rfl rfl) ?_
 repeat refine stq rfl ?_
 refine qst rfl rfl (q_cs rfl h93 rfl rfl) ?_
 repeat refine stq rfl ?_
 refine pw_cond rfl (fun h => ?_) (fun h => ?_)
 ·clear h
  repeat refine stq rfl ?_
  refine pw_draw3 [2,3] [3,4] (by decide +kernel) ?_
  repeat refine stq rfl ?_
  repeat refine stq rfl ?_
  exact endm rfl (by repeat' constructor) rfl (by repeat' constructor) rfl
 ·exfalso
  simp at h
  exact he h
set_option maxRecDepth 20000 in
theorem solve_bal (b : BR) (hb : b.Lim) (h0 : bodyE b = 0) (h93 : Ret Tryz.prog .shared 93 [.agg (eB b)] (.tup [.agg (zN ++ zN),I 0])) (a : AR) (F : List RR) (h120 : Ret Tryz.prog .shared 120 [.agg (eB b)] (.agg (eA a)))
  (h121 : Ret Tryz.prog .shared 121 [.agg (eB b),.agg (eA a)] (.bool false)) (h23 : Ret Tryz.prog .shared 23 [.sl (b.l.map eS),.agg (eA a)] (.tup [.sl (F.map eR),I 0])) : Ret Tryz.prog .shared 41 [.agg (eB b)] (.tup [.agg (eSol a F),.agg (zN ++ zN),I 0]) := by
 have h1 := checkBody_ret b hb
 rw [h0] at h1
 clear h0 hb
 refine Ret.of_pwp layOk mixed Go.Proofs.Tryz.func41 rfl (by decide) rfl rfl ?_
 repeat refine stq rfl ?_
 refine qst rfl rfl (q_cp rfl h1 rfl rfl rfl) ?_
 repeat refine stq rfl ?_
 refine qst rfl rfl (q_cs rfl h93 rfl rfl) ?_
 repeat refine stq rfl ?_
 refine qst rfl rfl (q_cs rfl h120 rfl rfl) ?_
 repeat refine stq rfl ?_
 refine qst rfl rfl (q_cp rfl h121 rfl rfl rfl) ?_
 repeat refine stq rfl ?_
 refine qst rfl rfl (q_cs rfl h23 rfl rfl) ?_
 repeat refine stq rfl ?_
 exact endm rfl (by repeat' constructor) rfl (by repeat' constructor) rfl
end Go.Pv


set_option maxHeartbeats 2000000
namespace Go.Pv
attribute [local irreducible] PWP POps PQuiet PSem XThen XBlock RetPost InlPost
open Go.Proofs
set_option maxRecDepth 20000 in
theorem blimbs_ret (n : Nat) (hn : n < 18446744073709551616) : Ret Tryz.prog .shared 140 [.int .u64 (n : Nat)] (.sl ((limbs n).map eU)) := by
 refine Ret.of_pwp layOk mixed Go.Proofs.Tryz.func140 rfl (by decide) rfl rfl ?_
 ((repeat (first | refine ps_nil ?_ | refine pq_nil ?_ | refine x_norm ?_ | refine pw_seq ?_));refine pw_region ?_)
 refine ps_v rfl trivial ?_
 ((repeat (first | refine ps_nil ?_ | refine pq_nil ?_ | refine x_norm ?_ | refine pw_seq ?_));refine pw_region ?_)
 (first | refine ps_run (o_nilm 180 1 0 rfl rfl ?_) | refine ps_run (o_nila 180 1 0 rfl rfl ?_))
 repeat refine stq rfl ?_
 refine pw_loop (fun q : Nat × List UInt16 => (limbs n = q.2 ++ limbs q.1 ∧ q.1 < 18446744073709551616) ∧ q.1 * 65536 ^ q.2.length ≤ n) (fun q => [(0,.int .u64 (q.1 : Nat)),(3,.als 3 (1 + q.2.length) 0 (q.2.map eU).length)]) (fun q => [(3,1 + q.2.length,⟨180,1,q.2.map eU,0⟩)]) (fun q => q.1) (n,[]) ⟨⟨rfl,hn⟩,by simp⟩ ⟨rfl,rfl,rfl,trivial⟩ ?_
 rintro ⟨m,L⟩ s ⟨⟨hL,hmn⟩,hb⟩
 simp only at hL hb hmn
 dsimp only
 repeat refine stq rfl ?_
 refine pw_cond rfl (fun h => ?_) (fun h => ?_)
 ·have hm : 0 < m := by have := of_decide_eq_true h;omega
  clear h
  have hLl : L.length < 4 := by
   rcases Nat.lt_or_ge L.length 4 with h | h
   ·exact h
   ·exfalso
    have h1 : 65536 ^ 4 ≤ 65536 ^ L.length := Nat.pow_le_pow_right (by decide) h
    have h2 := Nat.mul_le_mul (show 1 ≤ m by omega) h1
    have : 1 * 65536 ^ 4 = 18446744073709551616 := by decide
    omega
  have hL2 := limbs_step hL hm
  have hb2 : m / 65536 * 65536 ^ (L ++ [UInt16.ofNat m]).length ≤ n := by
   rw [List.length_append,List.length_singleton,Nat.pow_succ,Nat.mul_comm (65536 ^ _),← Nat.mul_assoc]
   exact Nat.le_trans (Nat.mul_le_mul_right _ (Nat.div_mul_le_self _ _)) hb
  have ha := and64 m hmn
  have hcv : IntKind.u16.wrap ((m - m / 65536 * 65536 : Nat) : Int) = ((UInt16.ofNat m).toNat : Int) := by rw [wrap_u16,u16_nat,u16_nat];omega
  repeat refine stq rfl ?_
  rw [ha,hcv]
  refine qst rfl rfl (q_slit rfl rfl rfl rfl rfl rfl rfl rfl rfl rfl (by repeat' constructor) rfl) ?_
  refine ps_run (o_app 0 rfl rfl rfl rfl rfl rfl rfl rfl rfl rfl rfl (by repeat' constructor) (by intro row hr;first | (simp at hr;subst hr;rfl) | simp at hr) rfl rfl (by simp;omega) (by simp;omega) ?_)
  repeat refine stq rfl ?_
  refine ⟨(m / 65536,L ++ [UInt16.ofNat m]),⟨⟨hL2,by simp only;omega⟩,hb2⟩,by simp only;omega,?_,?_,?_,trivial⟩
  ·show PV.int .u64 ((m : Int) / 2 ^ (16 : Int).toNat) = PV.int .u64 ((m / 65536 : Nat) : Int)
   rw [show ((2 : Int) ^ (16 : Int).toNat) = 65536 by decide];congr 1
  ·exact als_snc eU 3 1 L (UInt16.ofNat m)
  ·exact cont_snc eU 1 180 1 0 L (UInt16.ofNat m)
 ·have hm : m = 0 := by have := of_decide_eq_false h;omega
  subst hm
  clear h
  rw [limbs_zero,List.append_nil] at hL
  rw [hL]
  repeat refine stq rfl ?_
  exact end1 rfl rfl rfl ⟨rfl,rfl,rfl⟩ rfl
set_option maxRecDepth 20000 in
theorem bZ_ret (z : Int) (hz : i64 z) : Ret Tryz.prog .shared 86 [I z] (.agg (eI (ofZ z))) := by
 obtain ⟨h0,h1⟩ := hz
 have hn := blimbs_ret z.natAbs (by omega)
 by_cases hz : z < 0
 ·rw [ofZ,decide_eq_true hz]
  have w1 : IntKind.i64.wrap (z + 1) = z + 1 := wrap_i64 (by omega) (by omega)
  have w2 : IntKind.i64.wrap (0 - (z + 1)) = 0 - (z + 1) := wrap_i64 (by omega) (by omega)
  have w3 : IntKind.u64.wrap (0 - (z + 1)) = 0 - (z + 1) := wrap_u64 (by omega) (by omega)
  have w4 : IntKind.u64.wrap (0 - (z + 1) + 1) = ((z.natAbs : Nat) : Int) := by rw [wrap_u64 (by omega) (by omega)];omega
  generalize limbs z.natAbs = A at *
  generalize ((z.natAbs : Nat) : Int) = na at *
  refine Ret.of_pwp layOk mixed Go.Proofs.Tryz.func86 rfl (by decide) rfl rfl ?_
  repeat refine stq rfl ?_
  refine pw_cond rfl (fun h => ?_) (fun h => ?_)
  ·clear h
   repeat refine stq rfl ?_
   rw [w1]
   repeat refine stq rfl ?_
   rw [w2]
   repeat refine stq rfl ?_
   rw [w3]
   repeat refine stq rfl ?_
   rw [w4]
   repeat refine stq rfl ?_
   refine qst rfl rfl (q_cs rfl hn rfl rfl) ?_
   repeat refine stq rfl ?_
   exact endm rfl (by repeat' constructor) rfl (by repeat' constructor) rfl
  ·exact absurd hz (of_decide_eq_false h)
 ·rw [ofZ,decide_eq_false hz]
  have w : IntKind.u64.wrap z = ((z.natAbs : Nat) : Int) := by rw [wrap_u64 (by omega) (by omega)];omega
  generalize limbs z.natAbs = A at *
  refine Ret.of_pwp layOk mixed Go.Proofs.Tryz.func86 rfl (by decide) rfl rfl ?_
  repeat refine stq rfl ?_
  refine pw_cond rfl (fun h => ?_) (fun h => ?_)
  ·exact absurd (of_decide_eq_true h) hz
  ·clear h
   repeat refine stq rfl ?_
   rw [w]
   refine qst rfl rfl (q_cs rfl hn rfl rfl) ?_
   repeat refine stq rfl ?_
   exact endm rfl (by repeat' constructor) rfl (by repeat' constructor) rfl
theorem bW_ret (z : Int) (hz : i64 z) : Ret Tryz.prog .shared 25 [I z] (.agg (eR (ofQ (z : Rat)))) := by
 have h1 := bZ_ret z hz
 have h2 := bZ_ret 1 ⟨by decide,by decide⟩
 rw [ofQ_den1]
 generalize ofZ z = X at *
 generalize ofZ 1 = Y at *
 refine Ret.of_pwp layOk mixed Go.Proofs.Tryz.func25 rfl (by decide) rfl rfl ?_
 repeat refine stq rfl ?_
 refine qst rfl rfl (q_cs rfl h1 rfl rfl) ?_
 repeat refine stq rfl ?_
 refine qst rfl rfl (q_cs rfl h2 rfl rfl) ?_
 repeat refine stq rfl ?_
 exact endm rfl (by repeat' constructor) rfl (by repeat' constructor) rfl
set_option maxRecDepth 20000 in
theorem sameI_ret (a : RI) (ha : a.l.length ≤ 1000000000) : Ret Tryz.prog .shared 101 [.agg (eI a),.agg (eI a)] (.bool true) := by
 obtain ⟨n,l⟩ := a
 simp only at ha
 have hml : (l.map eU).length = l.length := by simp
 have hnn : (n != n) = false := by cases n <;> rfl
 have main : ∀ nn : Bool,nn = n → Ret Tryz.prog .shared 101 [.agg [.bool nn,.sl (l.map eU)],.agg [.bool nn,.sl (l.map eU)]] (.bool true) := by
  intro nn _
  cases nn <;>
  ·refine Ret.of_pwp layOk mixed Go.Proofs.Tryz.func101 rfl (by decide) rfl rfl ?_
   repeat refine stq rfl ?_
   refine pw_cond rfl (fun h => ?_) (fun h => ?_)
   ·simp at h
   clear h
   repeat refine stq rfl ?_
   refine pw_loop (fun k => k ≤ l.length) (fun k => [(2,.ptr 2 1 0 0),(3,.ptr 3 1 0 0),(5,I (k : Nat))]) (fun _ => [(2,1,⟨24,2,[eI ⟨_,l⟩],2⟩),(3,1,⟨24,2,[eI ⟨_,l⟩],2⟩)]) (fun k => l.length - k) 0 (Nat.zero_le _) ⟨rfl,rfl,rfl,rfl,rfl,trivial⟩ ?_
   intro k s hk
   repeat refine stq rfl ?_
   refine pw_cond rfl (fun h => ?_) (fun h => ?_)
   ·have hlt : k < l.length := by have := of_decide_eq_true h;simp only [List.length_map] at this;omega
    clear h
    obtain ⟨x,hx⟩ := get_lt hlt
    have hw : IntKind.i64.wrap (((k : Nat) : Int) + 1) = ((k + 1 : Nat) : Int) := by rw [wrap_i64 (by omega) (by omega)];omega
    repeat refine stq rfl ?_
    refine pw_draw 11 [27,28,29,30,31,32,33,34,35,36,37] (by decide +kernel) ?_
    repeat refine stq rfl ?_
    refine qst rfl rfl (q_idxm rfl rfl rfl rfl rfl (by omega) hx rfl) ?_
    repeat refine stq rfl ?_
    refine qst rfl rfl (q_idxm rfl rfl rfl rfl rfl (by omega) hx rfl) ?_
    repeat refine stq rfl ?_
    refine pw_cond rfl (fun h => ?_) (fun h => ?_)
    ·simp at h
    clear h
    repeat refine stq rfl ?_
    exact ⟨k + 1,hlt,by omega,rfl,rfl,congrArg I hw,rfl,rfl,trivial⟩
   ·repeat refine stq rfl ?_
    exact end1b rfl rfl rfl
 exact main n rfl
def RR.le (x : RR) (n : Nat) : Prop := x.n.l.length ≤ n ∧ x.d.l.length ≤ n
theorem sameR_ret (x : RR) (hx : x.le 1000000000) : Ret Tryz.prog .shared 32 [.agg (eR x),.agg (eR x)] (.bool true) := by
 have h1 := sameI_ret x.n hx.1
 have h2 := sameI_ret x.d hx.2
 obtain ⟨xn,xd⟩ := x
 refine Ret.of_pwp layOk mixed Go.Proofs.Tryz.func32 rfl (by decide) rfl rfl ?_
 repeat refine stq rfl ?_
 refine qst rfl rfl (q_cp rfl h1 rfl rfl rfl) ?_
 repeat refine stq rfl ?_
 refine qst rfl rfl (q_cp rfl h2 rfl rfl rfl) ?_
 repeat refine stq rfl ?_
 exact end1b rfl rfl rfl
theorem same_ofQ {p : Rat} {n : Nat} (h : HQ p n) (hn : n ≤ 100000000) : Ret Tryz.prog .shared 32 [.agg (eR (ofQ p)),.agg (eR (ofQ p))] (.bool true) := by
 have := hq_len h.ok
 exact sameR_ret _ ⟨by omega,by omega⟩
theorem sameRs_ret (l : List RR) (hl : l.length ≤ 1000000) (hs : ∀ x ∈ l,x.le 1000000000) : Ret Tryz.prog .shared 45 [.sl (l.map eR),.sl (l.map eR)] (.bool true) := by
 have hml : (l.map eR).length = l.length := by simp
 refine Ret.of_pwp layOk mixed Go.Proofs.Tryz.func45 rfl (by decide) rfl rfl ?_
 repeat refine stq rfl ?_
 refine pw_cond rfl (fun h => ?_) (fun h => ?_)
 ·simp at h
 clear h
 repeat refine stq rfl ?_
 refine pw_loop (fun k => k ≤ l.length) (fun k => [(0,.sl (l.map eR)),(1,.sl (l.map eR)),(5,I (k : Nat))]) (fun _ => []) (fun k => l.length - k) 0 (Nat.zero_le _) ⟨rfl,rfl,rfl,trivial⟩ ?_
 intro k s hk
 repeat refine stq rfl ?_
 refine pw_cond rfl (fun h => ?_) (fun h => ?_)
 ·have hlt : k < l.length := by have := of_decide_eq_true h;omega
  clear h
  obtain ⟨x,hx⟩ := get_lt hlt
  have hxr := sameR_ret x (hs x (List.mem_of_getElem? hx))
  have hw : IntKind.i64.wrap (((k : Nat) : Int) + 1) = ((k + 1 : Nat) : Int) := by rw [wrap_i64 (by omega) (by omega)];omega
  repeat refine stq rfl ?_
  refine pw_draw 10 [17,18,19,20,21,22,23,24,25,26] (by decide +kernel) ?_
  repeat refine stq rfl ?_
  refine qst rfl rfl (q_idxm rfl rfl rfl rfl rfl (by omega) hx rfl) ?_
  repeat refine stq rfl ?_
  refine qst rfl rfl (q_idxm rfl rfl rfl rfl rfl (by omega) hx rfl) ?_
  repeat refine stq rfl ?_
  refine qst rfl rfl (q_cp rfl hxr rfl rfl rfl) ?_
  repeat refine stq rfl ?_
  exact ⟨k + 1,hlt,by omega,rfl,rfl,congrArg I hw,trivial⟩
 ·repeat refine stq rfl ?_
  exact end1b rfl rfl rfl
end Go.Pv


set_option maxHeartbeats 2000000
namespace Go.Pv
attribute [local irreducible] PWP POps PQuiet PSem XThen XBlock RetPost InlPost
open Go.Proofs
def shR (x : RR) (n : Nat) : Bool := decide (x.n.l.length ≤ n) && decide (x.d.l.length ≤ n)
theorem shR_sz {x : RR} {n : Nat} : shR x n = true ↔ x.sz n := by rw [shR,Bool.and_eq_true,decide_eq_true_eq,decide_eq_true_eq];rfl
theorem shortR_ret (x : RR) (n : Nat) (hn : n ≤ 1000000) : Ret Tryz.prog .shared 17 [.agg (eR x),I (n : Nat)] (.bool (shR x n)) := by
 have e1 : decide ((((x.n.l.map eU).length : Nat) : Int) ≤ (n : Int)) = decide (x.n.l.length ≤ n) := by rw [decide_eq_decide,List.length_map];omega
 have e2 : decide ((((x.d.l.map eU).length : Nat) : Int) ≤ (n : Int)) = decide (x.d.l.length ≤ n) := by rw [decide_eq_decide,List.length_map];omega
 rw [shR,← e1,← e2]
 obtain ⟨⟨xn,xl⟩,⟨yn,yl⟩⟩ := x
 refine Ret.of_pwp layOk mixed Go.Proofs.Tryz.func17 rfl (by decide) rfl rfl ?_
 repeat refine stq rfl ?_
 (first|refine ps_split rfl rfl ?_ ?_|refine pq_split rfl rfl ?_ ?_|refine p3_split rfl rfl ?_ ?_)<;>intro h
 ·rw [h]
  clear h
  repeat refine stq rfl ?_
  exact end1b rfl rfl rfl
 ·rw [h]
  clear h
  repeat refine stq rfl ?_
  exact end1b rfl rfl rfl
theorem shortAll_ret (l : List RR) (n : Nat) (hn : n ≤ 1000000) (hl : l.length ≤ 9223372036854775807) : Ret Tryz.prog .shared 36 [.sl (l.map eR),I (n : Nat)] (.bool (l.all fun x => shR x n)) := by
 have hml : (l.map eR).length = l.length := by simp
 generalize hF : (l.all fun x => shR x n) = F
 refine Ret.of_pwp layOk mixed Go.Proofs.Tryz.func36 rfl (by decide) rfl rfl ?_
 repeat refine stq rfl ?_
 refine pw_loop (fun k => k ≤ l.length ∧ ((l.drop k).all fun x => shR x n) = F) (fun k => [(0,.sl (l.map eR)),(1,I (n : Nat)),(5,I (k : Nat))]) (fun _ => []) (fun k => l.length - k) 0 ⟨Nat.zero_le _,by rw [List.drop_zero];exact hF⟩ ⟨rfl,rfl,rfl,trivial⟩ ?_
 intro k s ⟨hk,hD⟩
 repeat refine stq rfl ?_
 refine pw_cond rfl (fun h => ?_) (fun h => ?_)
 ·have hlt : k < l.length := by have := of_decide_eq_true h;omega
  clear h
  obtain ⟨x,hx⟩ := get_lt hlt
  have hr := shortR_ret x n hn
  have hw : IntKind.i64.wrap (((k : Nat) : Int) + 1) = ((k + 1 : Nat) : Int) := by rw [wrap_i64 (by omega) (by omega)];omega
  have hdr : ((l.drop k).all fun x => shR x n) = (shR x n && (l.drop (k + 1)).all fun x => shR x n) := by
   obtain ⟨hl1,h2⟩ := List.getElem?_eq_some_iff.1 hx
   rw [List.drop_eq_getElem_cons hl1,h2,List.all_cons]
  rw [hdr] at hD
  cases hs : shR x n with
  |true =>
   rw [hs] at hr hD
   rw [Bool.true_and] at hD
   repeat refine stq rfl ?_
   refine qst rfl rfl (q_idxm rfl rfl rfl rfl rfl (by omega) hx rfl) ?_
   repeat refine stq rfl ?_
   refine qst rfl rfl (q_cp rfl hr rfl rfl rfl) ?_
   repeat refine stq rfl ?_
   exact ⟨k + 1,⟨hlt,hD⟩,by omega,rfl,rfl,congrArg I hw,trivial⟩
  |false =>
   rw [hs] at hr hD
   rw [Bool.false_and] at hD
   subst hD
   repeat refine stq rfl ?_
   refine qst rfl rfl (q_idxm rfl rfl rfl rfl rfl (by omega) hx rfl) ?_
   repeat refine stq rfl ?_
   refine qst rfl rfl (q_cp rfl hr rfl rfl rfl) ?_
   repeat refine stq rfl ?_
   exact end1b rfl rfl rfl
 ·have hie : k = l.length := by have := of_decide_eq_false h;omega
  clear h
  rw [hie,List.drop_length,List.all_nil] at hD
  subst hD
  repeat refine stq rfl ?_
  exact end1b rfl rfl rfl
def shS (st : Nat) (s : SR) : Bool := !(decide (st < s.k.S.length) || decide (st + 1 < s.k.M.length) || !shR s.c 3 || !(s.k.M.all fun x => shR x 3))
theorem shS_iff {st : Nat} {s : SR} : shS st s = true ↔ shortS st s := by
 rw [shS,shortS]
 simp only [Bool.not_eq_true',Bool.or_eq_false_iff,decide_eq_false_iff_not,Bool.not_eq_false',List.all_eq_true,shR_sz]
 constructor
 ·rintro ⟨⟨⟨h1,h2⟩,h3⟩,h4⟩;exact ⟨by omega,by omega,h3,h4⟩
 ·rintro ⟨h1,h2,h3,h4⟩;exact ⟨⟨⟨by omega,by omega⟩,h3⟩,h4⟩
def shL (l : List SR) (most st : Nat) : Bool := decide (l.length ≤ most) && l.all (shS st)
theorem shL_iff {l : List SR} {most st : Nat} : shL l most st = true ↔ ShortL l most st := by
 rw [shL,Bool.and_eq_true,decide_eq_true_eq,List.all_eq_true,ShortL]
 constructor
 ·rintro ⟨h1,h2⟩;exact ⟨h1,fun s hs => shS_iff.1 (h2 s hs)⟩
 ·rintro ⟨h1,h2⟩;exact ⟨h1,fun s hs => shS_iff.2 (h2 s hs)⟩
def LenL (l : List SR) : Prop := l.length ≤ 9223372036854775807 ∧ ∀ s ∈ l,s.k.S.length ≤ 9223372036854775807 ∧ s.k.M.length ≤ 9223372036854775807
set_option maxRecDepth 20000 in
theorem shortL_ret (l : List SR) (hll : LenL l) (most st : Nat) (hm : most ≤ 1000) (hst : st ≤ 1000) : Ret Tryz.prog .shared 16 [.sl (l.map eS),I (most : Nat),I (st : Nat)] (.bool (shL l most st)) := by
 have hml : (l.map eS).length = l.length := by simp
 by_cases h0 : most < l.length
 ·rw [shL,decide_eq_false (by omega),Bool.false_and]
  refine Ret.of_pwp layOk mixed Go.Proofs.Tryz.func16 rfl (by decide) rfl rfl ?_
  repeat refine stq rfl ?_
  refine pw_cond rfl (fun h => ?_) (fun h => ?_)
  ·clear h
   repeat refine stq rfl ?_
   exact end1b rfl rfl rfl
  ·have := of_decide_eq_false h;omega
 rw [shL,decide_eq_true (by omega),Bool.true_and]
 generalize hF : (l.all (shS st)) = F
 refine Ret.of_pwp layOk mixed Go.Proofs.Tryz.func16 rfl (by decide) rfl rfl ?_
 repeat refine stq rfl ?_
 refine pw_cond rfl (fun h => ?_) (fun h => ?_)
 ·have := of_decide_eq_true h;omega
 clear h
 repeat refine stq rfl ?_
 refine pw_loop (fun k => k ≤ l.length ∧ ((l.drop k).all (shS st)) = F) (fun k => [(0,.sl (l.map eS)),(2,I (st : Nat)),(7,I (k : Nat))]) (fun _ => []) (fun k => l.length - k) 0 ⟨Nat.zero_le _,by rw [List.drop_zero];exact hF⟩ ⟨rfl,rfl,rfl,trivial⟩ ?_
 intro k s ⟨hk,hD⟩
 repeat refine stq rfl ?_
 refine pw_cond rfl (fun h => ?_) (fun h => ?_)
 ·have hlt : k < l.length := by have := of_decide_eq_true h;omega
  clear h
  obtain ⟨x,hx⟩ := get_lt hlt
  have hl2 := hll.2 x (List.mem_of_getElem? hx)
  have hr := shortR_ret x.c 3 (by decide)
  have hr2 := shortAll_ret x.k.M 3 (by decide) (by omega)
  have hw : IntKind.i64.wrap (((k : Nat) : Int) + 1) = ((k + 1 : Nat) : Int) := by rw [wrap_i64 (by omega) (by omega)];omega
  have hws : IntKind.i64.wrap (((st : Nat) : Int) + 1) = ((st + 1 : Nat) : Int) := by rw [wrap_i64 (by omega) (by omega)];omega
  have hdr : ((l.drop k).all (shS st)) = (shS st x && (l.drop (k + 1)).all (shS st)) := by
   obtain ⟨hl1,h2⟩ := List.getElem?_eq_some_iff.1 hx
   rw [List.drop_eq_getElem_cons hl1,h2,List.all_cons]
  rw [hdr] at hD
  have hsx : shS st x = shS st x := rfl
  conv at hsx => rhs;rw [shS]
  generalize shS st x = ok at *
  generalize shR x.c 3 = o1 at *
  obtain ⟨o2,ho2⟩ : ∃ o2,(x.k.M.all fun y => shR y 3) = o2 := ⟨_,rfl⟩
  rw [ho2] at hsx hr2
  clear ho2
  obtain ⟨xx,xc,⟨xS,xM⟩⟩ := x
  simp only at *
  have lS : (xS.map eN).length = xS.length := by simp
  have lM : (xM.map eR).length = xM.length := by simp
  by_cases hb1 : st < xS.length
  ·rw [decide_eq_true hb1] at hsx
   simp only [Bool.true_or,Bool.not_true] at hsx
   subst hsx
   rw [Bool.false_and] at hD
   subst hD
   repeat refine stq rfl ?_
   refine qst rfl rfl (q_idxm rfl rfl rfl rfl rfl (by omega) hx rfl) ?_
   repeat refine stq rfl ?_
   (first|refine ps_split rfl rfl ?_ ?_|refine pq_split rfl rfl ?_ ?_|refine p3_split rfl rfl ?_ ?_)<;>intro h
   ·clear h
    repeat refine stq rfl ?_
    exact end1b rfl rfl rfl
   ·exfalso
    have := of_decide_eq_false h
    simp only [lS] at this
    omega
  rw [decide_eq_false hb1,Bool.false_or] at hsx
  by_cases hb2 : st + 1 < xM.length
  ·rw [decide_eq_true hb2] at hsx
   simp only [Bool.true_or,Bool.not_true] at hsx
   subst hsx
   rw [Bool.false_and] at hD
   subst hD
   repeat refine stq rfl ?_
   refine qst rfl rfl (q_idxm rfl rfl rfl rfl rfl (by omega) hx rfl) ?_
   repeat refine stq rfl ?_
   (first|refine ps_split rfl rfl ?_ ?_|refine pq_split rfl rfl ?_ ?_|refine p3_split rfl rfl ?_ ?_)<;>intro h
   ·exfalso
    have := of_decide_eq_true h
    simp only [lS] at this
    omega
   ·clear h
    repeat refine stq rfl ?_
    rw [hws]
    repeat refine stq rfl ?_
    (first|refine ps_split rfl rfl ?_ ?_|refine pq_split rfl rfl ?_ ?_|refine p3_split rfl rfl ?_ ?_)<;>intro h
    ·clear h
     repeat refine stq rfl ?_
     exact end1b rfl rfl rfl
    ·exfalso
     have := of_decide_eq_false h
     simp only [lM] at this
     omega
  rw [decide_eq_false hb2,Bool.false_or] at hsx
  cases o1 with
  |false =>
   simp only [Bool.not_false,Bool.true_or,Bool.not_true] at hsx
   subst hsx
   rw [Bool.false_and] at hD
   subst hD
   repeat refine stq rfl ?_
   refine qst rfl rfl (q_idxm rfl rfl rfl rfl rfl (by omega) hx rfl) ?_
   repeat refine stq rfl ?_
   (first|refine ps_split rfl rfl ?_ ?_|refine pq_split rfl rfl ?_ ?_|refine p3_split rfl rfl ?_ ?_)<;>intro h
   ·exfalso
    have := of_decide_eq_true h
    simp only [lS] at this
    omega
   ·clear h
    repeat refine stq rfl ?_
    rw [hws]
    repeat refine stq rfl ?_
    (first|refine ps_split rfl rfl ?_ ?_|refine pq_split rfl rfl ?_ ?_|refine p3_split rfl rfl ?_ ?_)<;>intro h
    ·exfalso
     have := of_decide_eq_true h
     simp only [lM] at this
     omega
    ·clear h
     repeat refine stq rfl ?_
     refine qst rfl rfl (q_idxm rfl rfl rfl rfl rfl (by omega) hx rfl) ?_
     repeat refine stq rfl ?_
     refine qst rfl rfl (q_cp rfl hr rfl rfl rfl) ?_
     repeat refine stq rfl ?_
     exact end1b rfl rfl rfl
  |true =>
   simp only [Bool.not_true,Bool.false_or,Bool.not_not] at hsx
   subst hsx
   cases ok with
   |false =>
    rw [Bool.false_and] at hD
    subst hD
    repeat refine stq rfl ?_
    refine qst rfl rfl (q_idxm rfl rfl rfl rfl rfl (by omega) hx rfl) ?_
    repeat refine stq rfl ?_
    (first|refine ps_split rfl rfl ?_ ?_|refine pq_split rfl rfl ?_ ?_|refine p3_split rfl rfl ?_ ?_)<;>intro h
    ·exfalso
     have := of_decide_eq_true h
     simp only [lS] at this
     omega
    ·clear h
     repeat refine stq rfl ?_
     rw [hws]
     repeat refine stq rfl ?_
     (first|refine ps_split rfl rfl ?_ ?_|refine pq_split rfl rfl ?_ ?_|refine p3_split rfl rfl ?_ ?_)<;>intro h
     ·exfalso
      have := of_decide_eq_true h
      simp only [lM] at this
      omega
     ·clear h
      repeat refine stq rfl ?_
      refine qst rfl rfl (q_idxm rfl rfl rfl rfl rfl (by omega) hx rfl) ?_
      repeat refine stq rfl ?_
      refine qst rfl rfl (q_cp rfl hr rfl rfl rfl) ?_
      repeat refine stq rfl ?_
      refine qst rfl rfl (q_cp rfl hr2 rfl rfl rfl) ?_
      repeat refine stq rfl ?_
      exact end1b rfl rfl rfl
   |true =>
    rw [Bool.true_and] at hD
    repeat refine stq rfl ?_
    refine qst rfl rfl (q_idxm rfl rfl rfl rfl rfl (by omega) hx rfl) ?_
    repeat refine stq rfl ?_
    (first|refine ps_split rfl rfl ?_ ?_|refine pq_split rfl rfl ?_ ?_|refine p3_split rfl rfl ?_ ?_)<;>intro h
    ·exfalso
     have := of_decide_eq_true h
     simp only [lS] at this
     omega
    ·clear h
     repeat refine stq rfl ?_
     rw [hws]
     repeat refine stq rfl ?_
     (first|refine ps_split rfl rfl ?_ ?_|refine pq_split rfl rfl ?_ ?_|refine p3_split rfl rfl ?_ ?_)<;>intro h
     ·exfalso
      have := of_decide_eq_true h
      simp only [lM] at this
      omega
     ·clear h
      repeat refine stq rfl ?_
      refine qst rfl rfl (q_idxm rfl rfl rfl rfl rfl (by omega) hx rfl) ?_
      repeat refine stq rfl ?_
      refine qst rfl rfl (q_cp rfl hr rfl rfl rfl) ?_
      repeat refine stq rfl ?_
      refine qst rfl rfl (q_cp rfl hr2 rfl rfl rfl) ?_
      repeat refine stq rfl ?_
      exact ⟨k + 1,⟨hlt,hD⟩,by omega,rfl,rfl,congrArg I hw,trivial⟩
 ·have hie : k = l.length := by have := of_decide_eq_false h;omega
  clear h
  rw [hie,List.drop_length,List.all_nil] at hD
  subst hD
  repeat refine stq rfl ?_
  exact end1b rfl rfl rfl
def manyB (b : BR) : Bool := shL b.l 10 4 && shR b.a 3
theorem many_ret (b : BR) (hll : LenL b.l) : Ret Tryz.prog .shared 30 [.agg (eB b)] (.bool (manyB b)) := by
 have h1 := shortL_ret b.l hll 10 4 (by decide) (by decide)
 have h2 := shortR_ret b.a 3 (by decide)
 rw [manyB]
 generalize shL b.l 10 4 = x1 at *
 generalize shR b.a 3 = x2 at *
 obtain ⟨w,a,l⟩ := b
 simp only at *
 cases x1
 ·rw [Bool.false_and]
  refine Ret.of_pwp layOk mixed Go.Proofs.Tryz.func30 rfl (by decide) rfl rfl ?_
  repeat refine stq rfl ?_
  refine qst rfl rfl (q_cp rfl h1 rfl rfl rfl) ?_
  repeat refine stq rfl ?_
  exact end1b rfl rfl rfl
 ·rw [Bool.true_and]
  refine Ret.of_pwp layOk mixed Go.Proofs.Tryz.func30 rfl (by decide) rfl rfl ?_
  repeat refine stq rfl ?_
  refine qst rfl rfl (q_cp rfl h1 rfl rfl rfl) ?_
  repeat refine stq rfl ?_
  refine qst rfl rfl (q_cp rfl h2 rfl rfl rfl) ?_
  repeat refine stq rfl ?_
  exact end1b rfl rfl rfl
end Go.Pv


set_option maxHeartbeats 2000000
namespace Go.Pv
attribute [local irreducible] PWP POps PQuiet PSem XThen XBlock RetPost InlPost
open Go.Proofs
set_option maxRecDepth 20000 in
theorem rcurve_ret (c : CR) (hc : c.Lim) : Ret Tryz.prog .shared 80 [.agg (eC c)] (I (curveE c)) := by
 obtain ⟨S,M⟩ := c
 obtain ⟨hs,hm,hls,hlm⟩ := hc
 simp only at hs hm hls hlm
 have hSl : (S.map eN).length = S.length := by simp
 have hMl : (M.map eR).length = M.length := by simp
 generalize hE : curveE ⟨S,M⟩ = E
 simp only [curveE] at hE
 show Ret Tryz.prog .shared 80 [.agg [.sl (S.map eN),.sl (M.map eR)]] (I E)
 refine Ret.of_pwp layOk mixed Go.Proofs.Tryz.func80 rfl (by decide) rfl rfl ?_
 repeat refine stq rfl ?_
 refine pw_cond rfl (fun h => ?_) (fun h => ?_)
 ·have h1 := of_decide_eq_true h
  rw [if_pos (by omega)] at hE
  subst hE
  repeat refine stq rfl ?_
  exact end1i rfl rfl rfl
 have h40 : ¬ 40 < S.length := by have h1 := of_decide_eq_false h;omega
 rw [if_neg h40] at hE
 clear h
 repeat refine stq rfl ?_
 refine pw_cond rfl (fun h => ?_) (fun h => ?_)
 ·have h1 : M.length ≠ S.length := by simp at h;omega
  rw [if_pos h1] at hE
  subst hE
  repeat refine stq rfl ?_
  exact end1i rfl rfl rfl
 have hSM : M.length = S.length := by simp at h;omega
 rw [if_neg (by omega)] at hE
 clear h
 repeat refine stq rfl ?_
 refine pw_loop (fun i : Nat => i ≤ S.length ∧ curveF ⟨S,M⟩ i (S.length - i) = E) (fun i => [(3,I (i : Nat)),(1,.ptr 1 1 0 0)]) (fun _ => [(1,1,⟨120,2,[[.sl (S.map eN),.sl (M.map eR)]],2⟩)]) (fun i => S.length - i) 0 ⟨Nat.zero_le _,hE⟩ ⟨rfl,rfl,rfl,trivial⟩ ?_
 intro i s ⟨hi,hF⟩
 repeat refine stq rfl ?_
 refine pw_cond rfl (fun h => ?_) (fun h => ?_)
 ·have hlt : i < S.length := by have := of_decide_eq_true h;omega
  clear h
  obtain ⟨k,hk⟩ : ∃ k,S.length - i = k + 1 := ⟨S.length - i - 1,by omega⟩
  rw [hk,curveF] at hF
  have hx := get_some (d := 0) hlt
  have hmx := get_some (l := M) (i := i) (d := RR.zero) (by omega)
  have hse : stepE ⟨S,M⟩ i = stepE ⟨S,M⟩ i := rfl
  conv at hse => rhs;rw [stepE]
  simp only at hse
  generalize stepE ⟨S,M⟩ i = se at *
  have hxb := hs _ (List.mem_of_getElem? hx)
  have hmv := (hm _ (List.mem_of_getElem? hmx)).v
  have hsg := rsignR_ret (M.getD i RR.zero) (hx := hmv) (by decide)
  have hsl := sgn_lt (M.getD i RR.zero).val
  generalize hx0 : S.getD i 0 = x at *
  generalize M.getD i RR.zero = m at *
  generalize sgn m.val = sg at *
  repeat refine stq rfl ?_
  refine qst rfl rfl (q_idxm rfl rfl rfl rfl rfl (by omega) hx rfl) ?_
  repeat refine stq rfl ?_
  (first|refine ps_split rfl rfl ?_ ?_|refine pq_split rfl rfl ?_ ?_|refine p3_split rfl rfl ?_ ?_)<;>intro h
  ·have h1 := of_decide_eq_true h
   clear h
   have hS2 : se = 2 := by rw [hse,if_pos (.inl h1)]
   rw [hS2,if_neg (by decide)] at hF
   subst hF
   repeat refine stq rfl ?_
   exact end1i rfl rfl rfl
  ·have h1 := of_decide_eq_false h
   clear h
   repeat refine stq rfl ?_
   refine qst rfl rfl (q_idxm rfl rfl rfl rfl rfl (by omega) hx rfl) ?_
   repeat refine stq rfl ?_
   (first|refine ps_split rfl rfl ?_ ?_|refine pq_split rfl rfl ?_ ?_|refine p3_split rfl rfl ?_ ?_)<;>intro h
   ·have h2 := of_decide_eq_true h
    clear h
    have hS2 : se = 2 := by rw [hse,if_pos (.inr (.inl h2))]
    rw [hS2,if_neg (by decide)] at hF
    subst hF
    repeat refine stq rfl ?_
    exact end1i rfl rfl rfl
   ·have h2 := of_decide_eq_false h
    clear h
    repeat refine stq rfl ?_
    refine qst rfl rfl (q_idxm rfl rfl rfl rfl rfl (by omega) hmx rfl) ?_
    repeat refine stq rfl ?_
    refine qst rfl rfl (q_cp rfl hsg rfl rfl rfl) ?_
    repeat refine stq rfl ?_
    refine pw_cond rfl (fun h => ?_) (fun h => ?_)
    ·have h3 := of_decide_eq_true h
     clear h
     have hS2 : se = 2 := by rw [hse,if_pos (.inr (.inr (hsl.1 h3)))]
     rw [hS2,if_neg (by decide)] at hF
     subst hF
     repeat refine stq rfl ?_
     exact end1i rfl rfl rfl
    ·have h3 := of_decide_eq_false h
     clear h
     rw [if_neg (by rw [← hsl];omega)] at hse
     repeat refine stq rfl ?_
     rcases Nat.eq_zero_or_pos i with hi0 | hi0
     ·subst hi0
      have hS2 : se = 0 := by rw [hse,if_neg (fun h => by omega)]
      rw [if_pos hS2] at hF
      have hw : IntKind.i64.wrap (((0 : Nat) : Int) + 1) = ((0 + 1 : Nat) : Int) := by rw [wrap_i64 (by omega) (by omega)];omega
      refine pw_draw 16 [45,46,47,48,49,50,51,52,53,54,55,56,57,58,59,60] (by decide +kernel) ?_
      repeat refine stq rfl ?_
      exact ⟨0 + 1,⟨by omega,by rw [show S.length - (0 + 1) = k by omega];exact hF⟩,by omega,congrArg I hw,rfl,rfl,trivial⟩
     ·obtain ⟨j,rfl⟩ : ∃ j,i = j + 1 := ⟨i - 1,by omega⟩
      have hw1 : IntKind.i64.wrap (((j + 1 : Nat) : Int) - 1) = ((j : Nat) : Int) := by rw [wrap_i64 (by omega) (by omega)];omega
      have hy := get_some (l := S) (i := j) (d := 0) (by omega)
      rw [show j + 1 - 1 = j by omega] at hse
      generalize S.getD j 0 = y at *
      refine pw_draw 16 [45,46,47,48,49,50,51,52,53,54,55,56,57,58,59,60] (by decide +kernel) ?_
      repeat refine stq rfl ?_
      (first|refine ps_split rfl rfl ?_ ?_|refine pq_split rfl rfl ?_ ?_|refine p3_split rfl rfl ?_ ?_)<;>intro h
      ·clear h
       repeat refine stq rfl ?_
       refine qst rfl rfl (q_idxm rfl rfl rfl rfl rfl (by omega) hx rfl) ?_
       repeat refine stq rfl ?_
       rw [hw1]
       refine qst rfl rfl (q_idxm rfl rfl rfl rfl rfl (by omega) hy rfl) ?_
       repeat refine stq rfl ?_
       refine pw_cond rfl (fun h => ?_) (fun h => ?_)
       ·have h5 := of_decide_eq_true h
        clear h
        have hS2 : se = 10 := by rw [hse,if_pos ⟨by omega,h5⟩]
        rw [hS2,if_neg (by decide)] at hF
        subst hF
        repeat refine stq rfl ?_
        exact end1i rfl rfl rfl
       ·have h5 := of_decide_eq_false h
        clear h
        have hS2 : se = 0 := by rw [hse,if_neg (fun h => h5 h.2)]
        rw [if_pos hS2] at hF
        have hw : IntKind.i64.wrap (((j + 1 : Nat) : Int) + 1) = ((j + 1 + 1 : Nat) : Int) := by rw [wrap_i64 (by omega) (by omega)];omega
        repeat refine stq rfl ?_
        exact ⟨j + 1 + 1,⟨by omega,by rw [show S.length - (j + 1 + 1) = k by omega];exact hF⟩,by omega,congrArg I hw,rfl,rfl,trivial⟩
      ·have := of_decide_eq_false h
       omega
 ·have hie : i = S.length := by have := of_decide_eq_false h;omega
  rw [hie,Nat.sub_self,curveF] at hF
  subst hF
  repeat refine stq rfl ?_
  exact end1i rfl rfl rfl
def winB (p : Rat) (lo hi : Int) : Bool := decide ((lo : Rat) ≤ p) && decide (p ≤ (hi : Rat))
theorem within_ret (x : RR) {p : Rat} {m : Nat} [hx : Vq x p m] (hm : m ≤ 1000000) (lo hi : Int) (hlo : i64 lo) (hhi : i64 hi) : Ret Tryz.prog .shared 79 [.agg (eR x),I lo,I hi] (.bool (winB p lo hi)) := by
 have w1 := bW_ret lo hlo
 have w2 := bW_ret hi hhi
 have z1 : Zb lo := zb_i64 hlo.1 hlo.2
 have z2 : Zb hi := zb_i64 hhi.1 hhi.2
 have c1 := rcmpR_ret x (ofQ (lo : Rat)) (by omega) (by decide)
 have c2 := rcmpR_ret x (ofQ (hi : Rat)) (by omega) (by decide)
 have e1 : decide ((lo : Rat) ≤ p) = decide (0 ≤ sgn (p - (lo : Rat))) := by rw [decide_eq_decide,sgn_ge];constructor <;> intro h <;> grind
 have e2 : decide (p ≤ (hi : Rat)) = decide (sgn (p - (hi : Rat)) ≤ 0) := by rw [decide_eq_decide,sgn_le];constructor <;> intro h <;> grind
 rw [winB,e1,e2]
 generalize sgn (p - (lo : Rat)) = g1 at *
 generalize sgn (p - (hi : Rat)) = g2 at *
 generalize ofQ (lo : Rat) = W1 at *
 generalize ofQ (hi : Rat) = W2 at *
 refine Ret.of_pwp layOk mixed Go.Proofs.Tryz.func79 rfl (by decide) rfl rfl ?_
 repeat refine stq rfl ?_
 refine pw_draw 13 [7,8,9,10,11,12,13,14,15,16,17,18,6] (by decide +kernel) ?_
 repeat refine stq rfl ?_
 refine qst rfl rfl (q_cs rfl w1 rfl rfl) ?_
 repeat refine stq rfl ?_
 refine qst rfl rfl (q_cp rfl c1 rfl rfl rfl) ?_
 repeat refine stq rfl ?_
 (first|refine ps_split rfl rfl ?_ ?_|refine pq_split rfl rfl ?_ ?_|refine p3_split rfl rfl ?_ ?_)<;>intro h
 ·rw [h]
  clear h
  repeat refine stq rfl ?_
  refine qst rfl rfl (q_cs rfl w2 rfl rfl) ?_
  repeat refine stq rfl ?_
  refine qst rfl rfl (q_cp rfl c2 rfl rfl rfl) ?_
  repeat refine stq rfl ?_
  exact end1b rfl rfl rfl
 ·rw [h]
  clear h
  repeat refine stq rfl ?_
  exact end1b rfl rfl rfl
theorem win_no {p : Rat} {n : Int} : winB p (-n) n = false ↔ (p < -(n : Rat) ∨ (n : Rat) < p) := by
 rw [winB,Bool.and_eq_false_iff,decide_eq_false_iff_not,decide_eq_false_iff_not]
 have e : (((-n : Int)) : Rat) = -(n : Rat) := by push_cast;rfl
 rw [e]
 constructor
 ·rintro (h | h)
  ·left;grind
  ·right;grind
 ·rintro (h | h)
  ·left;grind
  ·right;grind
set_option maxRecDepth 20000 in
theorem rcheck_ret (l : List SR) (hl : LimL l) : Ret Tryz.prog .shared 19 [.sl (l.map eS)] (I (checkL l)) := by
 have hml : (l.map eS).length = l.length := by simp
 generalize hE : checkL l = E
 rw [checkL] at hE
 obtain ⟨hs,hll⟩ := hl
 refine Ret.of_pwp layOk mixed Go.Proofs.Tryz.func19 rfl (by decide) rfl rfl ?_
 repeat refine stq rfl ?_
 refine pw_cond rfl (fun h => ?_) (fun h => ?_)
 ·have h1 := of_decide_eq_true h
  rw [if_pos (by omega)] at hE
  subst hE
  repeat refine stq rfl ?_
  exact end1i rfl rfl rfl
 rw [if_neg (by have := of_decide_eq_false h;omega)] at hE
 clear h
 repeat refine stq rfl ?_
 refine pw_loop (fun i : Nat => i ≤ l.length ∧ firstE supE (l.drop i) = E) (fun i => [(0,.sl (l.map eS)),(3,I (i : Nat))]) (fun _ => []) (fun i => l.length - i) 0 ⟨Nat.zero_le _,by rw [List.drop_zero];exact hE⟩ ⟨rfl,rfl,trivial⟩ ?_
 intro i s ⟨hi,hF⟩
 repeat refine stq rfl ?_
 refine pw_cond rfl (fun h => ?_) (fun h => ?_)
 ·have hlt : i < l.length := by have := of_decide_eq_true h;omega
  clear h
  obtain ⟨x,hx⟩ := get_lt hlt
  rw [firstE_drop supE hx] at hF
  have hxl := hs x (List.mem_of_getElem? hx)
  have hw := within_ret x.c (hx := hxl.c.v) (by decide) (-10000000) 10000000 ⟨by decide,by decide⟩ ⟨by decide,by decide⟩
  have hwn := win_no (p := x.c.val) (n := 10000000)
  have hcv := rcurve_ret x.k hxl.k
  have hse : supE x = supE x := rfl
  conv at hse => rhs;rw [supE]
  have hwr : IntKind.i64.wrap (((i : Nat) : Int) + 1) = ((i + 1 : Nat) : Int) := by rw [wrap_i64 (by omega) (by omega)];omega
  generalize supE x = se at *
  generalize curveE x.k = ce at *
  generalize winB x.c.val (-10000000) 10000000 = wb at *
  obtain ⟨xx,xc,xk⟩ := x
  simp only at *
  by_cases h1 : xx < -1000000
  ·have h2 : se = 2 := by rw [hse,if_pos (.inl (.inl h1))]
   rw [h2,if_neg (by decide)] at hF
   subst hF
   repeat refine stq rfl ?_
   refine qst rfl rfl (q_idxm rfl rfl rfl rfl rfl (by omega) hx rfl) ?_
   repeat refine stq rfl ?_
   (first|refine ps_split rfl rfl ?_ ?_|refine pq_split rfl rfl ?_ ?_|refine p3_split rfl rfl ?_ ?_)<;>intro h
   ·clear h
    repeat refine stq rfl ?_
    exact end1i rfl rfl rfl
   ·exact absurd h1 (of_decide_eq_false h)
  by_cases h2 : 1000000 < xx
  ·have h3 : se = 2 := by rw [hse,if_pos (.inl (.inr h2))]
   rw [h3,if_neg (by decide)] at hF
   subst hF
   repeat refine stq rfl ?_
   refine qst rfl rfl (q_idxm rfl rfl rfl rfl rfl (by omega) hx rfl) ?_
   repeat refine stq rfl ?_
   (first|refine ps_split rfl rfl ?_ ?_|refine pq_split rfl rfl ?_ ?_|refine p3_split rfl rfl ?_ ?_)<;>intro h
   ·exact absurd (of_decide_eq_true h) h1
   ·clear h
    repeat refine stq rfl ?_
    refine qst rfl rfl (q_idxm rfl rfl rfl rfl rfl (by omega) hx rfl) ?_
    repeat refine stq rfl ?_
    (first|refine ps_split rfl rfl ?_ ?_|refine pq_split rfl rfl ?_ ?_|refine p3_split rfl rfl ?_ ?_)<;>intro h
    ·clear h
     repeat refine stq rfl ?_
     exact end1i rfl rfl rfl
    ·exact absurd h2 (of_decide_eq_false h)
  cases wb with
  |false =>
   have h3 : se = 2 := by rw [hse,if_pos (.inr (hwn.1 rfl))]
   rw [h3,if_neg (by decide)] at hF
   subst hF
   repeat refine stq rfl ?_
   refine qst rfl rfl (q_idxm rfl rfl rfl rfl rfl (by omega) hx rfl) ?_
   repeat refine stq rfl ?_
   (first|refine ps_split rfl rfl ?_ ?_|refine pq_split rfl rfl ?_ ?_|refine p3_split rfl rfl ?_ ?_)<;>intro h
   ·exact absurd (of_decide_eq_true h) h1
   ·clear h
    repeat refine stq rfl ?_
    refine qst rfl rfl (q_idxm rfl rfl rfl rfl rfl (by omega) hx rfl) ?_
    repeat refine stq rfl ?_
    (first|refine ps_split rfl rfl ?_ ?_|refine pq_split rfl rfl ?_ ?_|refine p3_split rfl rfl ?_ ?_)<;>intro h
    ·exact absurd (of_decide_eq_true h) h2
    ·clear h
     repeat refine stq rfl ?_
     refine qst rfl rfl (q_idxm rfl rfl rfl rfl rfl (by omega) hx rfl) ?_
     repeat refine stq rfl ?_
     refine qst rfl rfl (q_cp rfl hw rfl rfl rfl) ?_
     repeat refine stq rfl ?_
     exact end1i rfl rfl rfl
  |true =>
   have h3 : se = ce := by
    rw [hse,if_neg]
    rintro (h | h)
    ·omega
    ·exact absurd (hwn.2 h) (by decide)
   rw [h3] at hF
   by_cases h0 : ce = 0
   ·rw [if_pos h0] at hF
    subst h0
    repeat refine stq rfl ?_
    refine qst rfl rfl (q_idxm rfl rfl rfl rfl rfl (by omega) hx rfl) ?_
    repeat refine stq rfl ?_
    (first|refine ps_split rfl rfl ?_ ?_|refine pq_split rfl rfl ?_ ?_|refine p3_split rfl rfl ?_ ?_)<;>intro h
    ·exact absurd (of_decide_eq_true h) h1
    ·clear h
     repeat refine stq rfl ?_
     refine qst rfl rfl (q_idxm rfl rfl rfl rfl rfl (by omega) hx rfl) ?_
     repeat refine stq rfl ?_
     (first|refine ps_split rfl rfl ?_ ?_|refine pq_split rfl rfl ?_ ?_|refine p3_split rfl rfl ?_ ?_)<;>intro h
     ·exact absurd (of_decide_eq_true h) h2
     ·clear h
      repeat refine stq rfl ?_
      refine qst rfl rfl (q_idxm rfl rfl rfl rfl rfl (by omega) hx rfl) ?_
      repeat refine stq rfl ?_
      refine qst rfl rfl (q_cp rfl hw rfl rfl rfl) ?_
      repeat refine stq rfl ?_
      refine qst rfl rfl (q_idxm rfl rfl rfl rfl rfl (by omega) hx rfl) ?_
      repeat refine stq rfl ?_
      refine qst rfl rfl (q_cp rfl hcv rfl rfl rfl) ?_
      repeat refine stq rfl ?_
      exact ⟨i + 1,⟨by omega,hF⟩,by omega,rfl,congrArg I hwr,trivial⟩
   ·rw [if_neg h0] at hF
    subst hF
    repeat refine stq rfl ?_
    refine qst rfl rfl (q_idxm rfl rfl rfl rfl rfl (by omega) hx rfl) ?_
    repeat refine stq rfl ?_
    (first|refine ps_split rfl rfl ?_ ?_|refine pq_split rfl rfl ?_ ?_|refine p3_split rfl rfl ?_ ?_)<;>intro h
    ·exact absurd (of_decide_eq_true h) h1
    ·clear h
     repeat refine stq rfl ?_
     refine qst rfl rfl (q_idxm rfl rfl rfl rfl rfl (by omega) hx rfl) ?_
     repeat refine stq rfl ?_
     (first|refine ps_split rfl rfl ?_ ?_|refine pq_split rfl rfl ?_ ?_|refine p3_split rfl rfl ?_ ?_)<;>intro h
     ·exact absurd (of_decide_eq_true h) h2
     ·clear h
      repeat refine stq rfl ?_
      refine qst rfl rfl (q_idxm rfl rfl rfl rfl rfl (by omega) hx rfl) ?_
      repeat refine stq rfl ?_
      refine qst rfl rfl (q_cp rfl hw rfl rfl rfl) ?_
      repeat refine stq rfl ?_
      refine qst rfl rfl (q_idxm rfl rfl rfl rfl rfl (by omega) hx rfl) ?_
      repeat refine stq rfl ?_
      refine qst rfl rfl (q_cp rfl hcv rfl rfl rfl) ?_
      repeat refine stq rfl ?_
      refine pw_cond rfl (fun h => ?_) (fun h => ?_)
      ·repeat refine stq rfl ?_
       exact end1i rfl rfl rfl
      ·exfalso
       simp at h
       exact h0 h
 ·have hie : i = l.length := by have := of_decide_eq_false h;omega
  clear h
  rw [hie,List.drop_length] at hF
  simp only [firstE] at hF
  subst hF
  repeat refine stq rfl ?_
  exact end1i rfl rfl rfl
theorem rbody_ret (b : BR) (hb : b.Lim) : Ret Tryz.prog .shared 21 [.agg (eB b)] (I (bodyE b)) := by
 have hw := within_ret b.a (hx := hb.a.v) (by decide) (-1000000) 1000000 ⟨by decide,by decide⟩ ⟨by decide,by decide⟩
 have hwn := win_no (p := b.a.val) (n := 1000000)
 have hc := rcheck_ret b.l hb.l
 generalize hE : bodyE b = E
 rw [bodyE] at hE
 generalize winB b.a.val (-1000000) 1000000 = wb at *
 obtain ⟨w,a,l⟩ := b
 simp only at *
 generalize checkL l = ce at *
 by_cases h1 : w < 1
 ·rw [if_pos (.inl (.inl h1))] at hE
  subst hE
  refine Ret.of_pwp layOk mixed Go.Proofs.Tryz.func21 rfl (by decide) rfl rfl ?_
  repeat refine stq rfl ?_
  (first|refine ps_split rfl rfl ?_ ?_|refine pq_split rfl rfl ?_ ?_|refine p3_split rfl rfl ?_ ?_)<;>intro h
  ·clear h
   repeat refine stq rfl ?_
   exact end1i rfl rfl rfl
  ·exact absurd h1 (of_decide_eq_false h)
 by_cases h2 : 1000000000 < w
 ·rw [if_pos (.inl (.inr h2))] at hE
  subst hE
  refine Ret.of_pwp layOk mixed Go.Proofs.Tryz.func21 rfl (by decide) rfl rfl ?_
  repeat refine stq rfl ?_
  (first|refine ps_split rfl rfl ?_ ?_|refine pq_split rfl rfl ?_ ?_|refine p3_split rfl rfl ?_ ?_)<;>intro h
  ·exact absurd (of_decide_eq_true h) h1
  ·clear h
   repeat refine stq rfl ?_
   (first|refine ps_split rfl rfl ?_ ?_|refine pq_split rfl rfl ?_ ?_|refine p3_split rfl rfl ?_ ?_)<;>intro h
   ·clear h
    repeat refine stq rfl ?_
    exact end1i rfl rfl rfl
   ·exact absurd h2 (of_decide_eq_false h)
 cases wb with
 |false =>
  rw [if_pos (.inr (hwn.1 rfl))] at hE
  subst hE
  refine Ret.of_pwp layOk mixed Go.Proofs.Tryz.func21 rfl (by decide) rfl rfl ?_
  repeat refine stq rfl ?_
  (first|refine ps_split rfl rfl ?_ ?_|refine pq_split rfl rfl ?_ ?_|refine p3_split rfl rfl ?_ ?_)<;>intro h
  ·exact absurd (of_decide_eq_true h) h1
  ·clear h
   repeat refine stq rfl ?_
   (first|refine ps_split rfl rfl ?_ ?_|refine pq_split rfl rfl ?_ ?_|refine p3_split rfl rfl ?_ ?_)<;>intro h
   ·exact absurd (of_decide_eq_true h) h2
   ·clear h
    repeat refine stq rfl ?_
    refine qst rfl rfl (q_cp rfl hw rfl rfl rfl) ?_
    repeat refine stq rfl ?_
    exact end1i rfl rfl rfl
 |true =>
  rw [if_neg (by
   rintro (h | h)
   ·omega
   ·exact absurd (hwn.2 h) (by decide))] at hE
  subst hE
  refine Ret.of_pwp layOk mixed Go.Proofs.Tryz.func21 rfl (by decide) rfl rfl ?_
  repeat refine stq rfl ?_
  (first|refine ps_split rfl rfl ?_ ?_|refine pq_split rfl rfl ?_ ?_|refine p3_split rfl rfl ?_ ?_)<;>intro h
  ·exact absurd (of_decide_eq_true h) h1
  ·clear h
   repeat refine stq rfl ?_
   (first|refine ps_split rfl rfl ?_ ?_|refine pq_split rfl rfl ?_ ?_|refine p3_split rfl rfl ?_ ?_)<;>intro h
   ·exact absurd (of_decide_eq_true h) h2
   ·clear h
    repeat refine stq rfl ?_
    refine qst rfl rfl (q_cp rfl hw rfl rfl rfl) ?_
    repeat refine stq rfl ?_
    refine qst rfl rfl (q_cp rfl hc rfl rfl rfl) ?_
    repeat refine stq rfl ?_
    exact end1i rfl rfl rfl
end Go.Pv


set_option maxHeartbeats 2000000
namespace Go.Pv
attribute [local irreducible] PWP POps PQuiet PSem XThen XBlock RetPost InlPost
open Go.Proofs Go.RowKit
theorem Ghost.takeD {s : St} {k g t n sz : Nat} {T : TypeId} {rows : List (List PV)} (ho : s.own k = (g,some ⟨T,sz,rows,1⟩)) (hr : s.reg t = .als k g 0 n) (hn : n = rows.length) :
  Ghost s ((s.setOwn k (g + 1) none).putR t (.sl rows)) := by
 intro C a w hX ⟨γ,h⟩
 subst hn
 obtain ⟨h1,hle,_⟩ := h.drop hX ho
 refine ⟨γ,h1.defers,h1.size,fun r => ?_,h1.sites,h1.inj,h1.base,h1.below,h1.top,h1.kept⟩
 show Rep _ (bif Nat.beq r t then _ else (s.setOwn k (g + 1) none).reg r) _
 by_cases hrt : r = t
 ·subst hrt
  have hp := h.regs r
  rw [hr] at hp
  simp only [Nat.beq_refl,cond_true]
  refine .d ?_
  rcases h.als_at hp ho with ⟨q1,_,q3,q4⟩ | ⟨b,cap,cur,q1,q2,q3,q4,q5,q6,q7⟩
  ·have : rows = [] := (h.sites k _ (by rw [ho])).emp q1
   rw [this,q4]
   exact .sl0 _ _
  ·obtain ⟨cur',g1,g2,g3,g4,g5⟩ := h.site_at ho q1 (h.cells_sz ho q1 q3 q6)
   have hb : (envOf C γ (s.setOwn k (g + 1) none) w).ok b := by
    have hbase := h.base k _ b (by rw [ho]) q1
    refine ⟨hbase.2,fun hx => ?_,fun k' c' hc' hb' => ?_⟩
    ·have := hX b hx;omega
    ·by_cases hk' : k' = k
     ·subst hk';rw [setOwn_same] at hc';cases hc'
     ·rw [setOwn_ne hk'] at hc'
      exact hk' (h.inj k' k c' _ b hc' (by rw [ho]) hb' q1)
   rw [q2]
   simp only [Nat.zero_mul]
   refine .sl rows b 0 cap sz (fun i j => cur'.getD (i * sz + j) undef) hb g2 q4 g4 (fun i j row pv e1 e2 => ?_) (fun i j row pv e1 e2 => ?_)
   ·obtain ⟨u,f1,f2,_⟩ := g5 i j row pv e1 e2
    have g1 : w.heap[b]? = some (.cells cur' T (0,0)) := g1
    show w.cell? _ = _ ∧ _
    rw [cell_of_cells g1,Nat.zero_add,f1]
    simp [f1,f2]
   ·obtain ⟨u,f1,_,f3⟩ := g5 i j row pv e1 e2
    have hu : cur'.getD (i * sz + j) undef = u := by simp [f1]
    simp only [hu]
    exact hle.drep f3
 ·rw [nbeq_ne hrt];exact h1.regs r
def wsL (l : List Int) : List RR := l.map fun z : Int => ofQ (z : Rat)
set_option maxRecDepth 20000 in
theorem bWs_ret (l : List Int) (hl : l.length ≤ 1000000) (hz : ∀ z ∈ l,i64 z) : Ret Tryz.prog .shared 74 [.sl (l.map eN)] (.sl ((wsL l).map eR)) := by
 have hml : (l.map eN).length = l.length := by simp
 refine Ret.of_pwp layOk mixed Go.Proofs.Tryz.func74 rfl (by decide) rfl rfl ?_
 ((repeat (first | refine ps_nil ?_ | refine pq_nil ?_ | refine x_norm ?_ | refine pw_seq ?_));refine pw_region ?_)
 refine ps_v rfl trivial ?_
 ((repeat (first | refine ps_nil ?_ | refine pq_nil ?_ | refine x_norm ?_ | refine pw_seq ?_));refine pw_region ?_)
 (first | refine ps_run (o_nilm 26 4 1 rfl rfl ?_) | refine ps_run (o_nila 26 4 1 rfl rfl ?_))
 repeat refine stq rfl ?_
 refine pw_loop (fun k => k ≤ l.length) (fun k => [(0,.sl (l.map eN)),(3,.als 3 (k + 1) 0 ((wsL (l.take k)).map eR).length),(4,I (k : Nat))]) (fun k => [(3,k + 1,⟨26,4,(wsL (l.take k)).map eR,1⟩)]) (fun k => l.length - k) 0 (Nat.zero_le _) ⟨rfl,rfl,rfl,rfl,trivial⟩ ?_
 intro k s hk
 repeat refine stq rfl ?_
 refine pw_cond rfl (fun h => ?_) (fun h => ?_)
 ·have hlt : k < l.length := by have := of_decide_eq_true h;omega
  clear h
  obtain ⟨x,hx⟩ := get_lt hlt
  have hxr := bW_ret x (hz x (List.mem_of_getElem? hx))
  have hw : IntKind.i64.wrap (((k : Nat) : Int) + 1) = ((k + 1 : Nat) : Int) := by rw [wrap_i64 (by omega) (by omega)];omega
  have hwl : (wsL (l.take k)).length = k := by rw [wsL,List.length_map,List.length_take];omega
  have hrows : (wsL (l.take (k + 1))).map eR = (wsL (l.take k)).map eR ++ [eR (ofQ (x : Rat))] := by rw [take_snocU hx,wsL,List.map_append,List.map_append];rfl
  repeat refine stq rfl ?_
  refine qst rfl rfl (q_idxm rfl rfl rfl rfl rfl (by omega) hx rfl) ?_
  repeat refine stq rfl ?_
  refine qst rfl rfl (q_cs rfl hxr rfl rfl) ?_
  repeat refine stq rfl ?_
  refine ps_run (o_slit 1 rfl rfl rfl rfl rfl rfl rfl rfl rfl rfl rfl (by repeat' constructor) rfl ?_)
  repeat refine stq rfl ?_
  refine ps_run (o_app 1 rfl rfl rfl rfl rfl rfl rfl rfl rfl rfl rfl (by repeat' constructor) (by intro row hr;first | (simp at hr;subst hr;rfl) | simp at hr) rfl rfl (by simp;omega) (by simp;omega) ?_)
  repeat refine stq rfl ?_
  refine ⟨k + 1,hlt,by omega,rfl,?_,congrArg I hw,?_,trivial⟩
  ·rw [hrows];rfl
  ·rw [hrows];rfl
 ·have hge : k = l.length := by have := of_decide_eq_false h;omega
  subst hge
  clear h
  rw [List.take_length]
  repeat refine stq rfl ?_
  exact end1 rfl rfl rfl ⟨rfl,rfl,rfl⟩ rfl
theorem spring_weak (x : Int) : WeakL ([I x] ++ zN ++ [.sl [[I 0]],.sl ((wsL [2]).map eR)]) (eS (spS x)) := WeakL.append (WeakL.append (WeakL.refl _) zN_weak) (WeakL.refl _)
theorem pad_weak (x : Int) : WeakL ([I x] ++ zN ++ [.sl [[I 0],[I 10]],.sl ((wsL [5,0]).map eR)]) (eS (pdS x)) := WeakL.append (WeakL.append (WeakL.refl _) zN_weak) (WeakL.refl _)
theorem i64_lit : ∀ z ∈ [(0 : Int),1,2,5,10,25,30,40,75,80,100],i64 z := by
 intro z hz
 simp at hz
 rcases hz with rfl | rfl | rfl | rfl | rfl | rfl | rfl | rfl | rfl | rfl | rfl <;> exact ⟨by decide,by decide⟩
theorem spring_ret (x : Int) : Ret Tryz.prog .shared 72 [I x] (.agg (eS (spS x))) := by
 have h1 := bWs_ret [2] (by simp) (fun z hz => i64_lit z (by simp at hz;subst hz;simp))
 refine Ret.weak (r' := .agg ([I x] ++ zN ++ [.sl [[I 0]],.sl ((wsL [2]).map eR)])) ?_ (WeakL.refl _) (spring_weak x).agg
 generalize (wsL [2]).map eR = W at *
 refine Ret.of_pwp layOk mixed Go.Proofs.Tryz.func72 rfl (by decide) rfl rfl ?_
 repeat refine stq rfl ?_
 refine ps_run (o_slit 0 rfl rfl rfl rfl rfl rfl rfl rfl rfl rfl rfl (by repeat' constructor) rfl ?_)
 repeat refine stq rfl ?_
 refine qst rfl rfl (q_slit rfl rfl rfl rfl rfl rfl rfl rfl rfl rfl (by repeat' constructor) rfl) ?_
 repeat refine stq rfl ?_
 refine qst rfl rfl (q_cs rfl h1 rfl rfl) ?_
 repeat refine stq rfl ?_
 exact endm rfl (by repeat' constructor) rfl (by repeat' constructor) rfl
theorem pad_ret (x : Int) : Ret Tryz.prog .shared 73 [I x] (.agg (eS (pdS x))) := by
 have h1 := bWs_ret [5,0] (by simp) (fun z hz => i64_lit z (by simp at hz;rcases hz with rfl | rfl <;> simp))
 refine Ret.weak (r' := .agg ([I x] ++ zN ++ [.sl [[I 0],[I 10]],.sl ((wsL [5,0]).map eR)])) ?_ (WeakL.refl _) (pad_weak x).agg
 generalize (wsL [5,0]).map eR = W at *
 refine Ret.of_pwp layOk mixed Go.Proofs.Tryz.func73 rfl (by decide) rfl rfl ?_
 repeat refine stq rfl ?_
 refine ps_run (o_slit 0 rfl rfl rfl rfl rfl rfl rfl rfl rfl rfl rfl (by repeat' constructor) rfl ?_)
 repeat refine stq rfl ?_
 refine qst rfl rfl (q_slit rfl rfl rfl rfl rfl rfl rfl rfl rfl rfl (by repeat' constructor) rfl) ?_
 repeat refine stq rfl ?_
 refine qst rfl rfl (q_cs rfl h1 rfl rfl) ?_
 repeat refine stq rfl ?_
 exact endm rfl (by repeat' constructor) rfl (by repeat' constructor) rfl
theorem tenth : ofQ (-1 / 10) = ⟨ofZ (-1),ofZ 10⟩ := by
 rw [ofQ_num]
 have h1 : (-1 / 10 : Rat).num = -1 := by decide +kernel
 have h2 : (-1 / 10 : Rat).den = 10 := by decide +kernel
 rw [h1,h2];rfl
set_option maxRecDepth 20000 in
theorem bQ_ret : Ret Tryz.prog .shared 75 [I (-1),I 10] (.agg (eR (ofQ (-1 / 10)))) := by
 have h1 := bZ_ret (-1) ⟨by decide,by decide⟩
 have h2 := bZ_ret 10 ⟨by decide,by decide⟩
 rw [tenth]
 generalize ofZ (-1) = X at *
 generalize ofZ 10 = Y at *
 refine Ret.of_pwp layOk mixed Go.Proofs.Tryz.func75 rfl (by decide) rfl rfl ?_
 repeat refine stq rfl ?_
 refine pw_loop (fun q : Nat × Nat => q.1 ≤ 10 ∧ q.2 ≤ 10 ∧ Nat.gcd q.1 q.2 = 1) (fun q => [(0,I (-1)),(1,I 10),(4,.ptr 4 1 0 0),(5,I (q.1 : Nat)),(6,I (q.2 : Nat))]) (fun _ => [(4,1,⟨26,4,[zN],2⟩)]) (fun q => q.2) (1,10) ⟨by decide,by decide,by decide⟩ ⟨rfl,rfl,rfl,rfl,rfl,rfl,trivial⟩ ?_
 rintro ⟨x,y⟩ s ⟨hx,hy,hg⟩
 simp only at hx hy hg
 dsimp only
 repeat refine stq rfl ?_
 refine pw_cond rfl (fun h => ?_) (fun h => ?_)
 ·have hy0 : 0 < y := by have := of_decide_eq_true h;omega
  clear h
  have hm := Nat.mod_lt x hy0
  repeat refine stq rfl ?_
  refine pw_draw3 [] [] (by decide +kernel) ?_
  repeat refine stq rfl ?_
  refine qst rfl rfl (QOp.v rfl (show ¬ ((y : Nat) : Int) = 0 by omega)) ?_
  rw [tmod_nat]
  repeat refine stq rfl ?_
  exact ⟨(y,x % y),⟨hy,by simp only;omega,by simp only;rw [Nat.gcd_comm,← Nat.gcd_rec,Nat.gcd_comm];exact hg⟩,hm,rfl,rfl,rfl,rfl,rfl,rfl,trivial⟩
 ·have hy0 : y = 0 := by have := of_decide_eq_false h;omega
  subst hy0
  clear h
  rw [Nat.gcd_zero_right] at hg
  subst hg
  repeat refine stq rfl ?_
  refine pw_draw 9 [25,26,27,28,29,30,31,32,33] (by decide +kernel) ?_
  repeat refine stq rfl ?_
  have q1 : IntKind.i64.wrap (Int.tdiv (-1) ((1 : Nat) : Int)) = -1 := by decide
  have q2 : IntKind.i64.wrap (Int.tdiv 10 ((1 : Nat) : Int)) = 10 := by decide
  refine qst rfl rfl (QOp.v rfl (show ¬ ((1 : Nat) : Int) = 0 by decide)) ?_
  rw [q1]
  repeat refine stq rfl ?_
  refine qst rfl rfl (q_cs rfl h1 rfl rfl) ?_
  repeat refine stq rfl ?_
  refine qst rfl rfl (QOp.v rfl (show ¬ ((1 : Nat) : Int) = 0 by decide)) ?_
  rw [q2]
  repeat refine stq rfl ?_
  refine qst rfl rfl (q_cs rfl h2 rfl rfl) ?_
  repeat refine stq rfl ?_
  exact endm rfl (by repeat' constructor) rfl (by repeat' constructor) rfl
theorem b1_F (z t : Rat) : (bd b1).F z t = (0 + if z + t * 0 < 0 then 0 else 2 * (z + t * 0)) + if z + t * 100 < 0 then 0 else 2 * (z + t * 100) := by
 have e : (bd b1).F z t = (0 + fQ (spS 0) z t) + fQ (spS 100) z t := rfl
 rw [e,sp_f,sp_f,show ((0 : Int) : Rat) = 0 from rfl,show ((100 : Int) : Rat) = 100 from rfl]
theorem b1_G (z t : Rat) : (bd b1).G z t = (if z + t * 100 < 0 then 0 else 2 * (z + t * 100)) * 100 := by
 have e : (bd b1).G z t = (0 + fQ (spS 0) z t * ((0 : Int) : Rat)) + fQ (spS 100) z t * ((100 : Int) : Rat) := rfl
 rw [e,sp_f,sp_f,show ((0 : Int) : Rat) = 0 from rfl,show ((100 : Int) : Rat) = 100 from rfl]
 grind
theorem b1_w : (bd b1).w = 40 := rfl
theorem b1_A : (bd b1).A = 25 := by
 show (ofQ ((25 : Int) : Rat)).val = 25
 rw [ofQ_val];rfl
theorem b1_E {z t : Rat} (h : (bd b1).Least z t) : (bd b1).E t = (if z + t * 100 < 0 then 0 else 2 * (z + t * 100)) * 100 - 40 * 25 := by
 rw [Bd.E,Bd.sg_eq h,Bd.e,b1_G,b1_w,b1_A]
theorem b1_least {z t : Rat} (h1 : (bd b1).F z t = 40) (h2 : ∀ z',z' < z → (bd b1).F z' t < 40) : (bd b1).Least z t := ⟨h1,h2⟩
theorem b1_l0 : (bd b1).Least 10 0 := b1_least (by rw [b1_F];grind) (fun z' h => by rw [b1_F];grind)
theorem b1_lm : (bd b1).Least 20 (-1) := b1_least (by rw [b1_F];grind) (fun z' h => by rw [b1_F];grind)
theorem b1_lp : (bd b1).Least (-80) 1 := b1_least (by rw [b1_F];grind) (fun z' h => by rw [b1_F];grind)
theorem b1_piece {x : Int} {z t : Rat} (h : 0 ≤ z + t * (x : Rat)) : prI (spS x).k.s (yQ (spS x) z t) 1 = 1 := by
 rw [prI,if_pos]
 show ((0 : Int) : Rat) ≤ RR.zero.val + (z + t * (x : Rat))
 rw [RR.zero_val,show ((0 : Int) : Rat) = 0 from rfl]
 grind
theorem b1_pieceL {x : Int} {z t : Rat} (h : 0 < z + t * (x : Rat)) : plI (spS x).k.s (yQ (spS x) z t) 1 = 1 := by
 rw [plI,if_pos]
 show ((0 : Int) : Rat) < RR.zero.val + (z + t * (x : Rat))
 rw [RR.zero_val,show ((0 : Int) : Rat) = 0 from rfl]
 grind
theorem spS_m (x : Int) : befQ (spS x).k.m 1 = 2 := by
 rw [befQ]
 show (ofQ ((2 : Int) : Rat)).val = 2
 rw [ofQ_val];rfl
theorem b1_k {i : Nat} (hi : i < 2) : (bd b1).k ((bd b1).pR 10 0) i = 2 := by
 rcases i with _ | _ | i
 ·show befQ (spS 0).k.m (prI (spS 0).k.s (yQ (spS 0) 10 0) 1) = 2
  rw [b1_piece (by grind),spS_m]
 ·show befQ (spS 100).k.m (prI (spS 100).k.s (yQ (spS 100) 10 0) 1) = 2
  rw [b1_piece (by grind),spS_m]
 ·omega
theorem b1_guess : (bd b1).guess 10 0 = some (15,-1 / 10) := by
 have kh : (bd b1).Kh ((bd b1).pR 10 0) = 4 := by
  show 0 + (bd b1).k ((bd b1).pR 10 0) 0 + (bd b1).k ((bd b1).pR 10 0) 1 = 4
  rw [b1_k (by decide),b1_k (by decide)];grind
 have kc : (bd b1).Kc ((bd b1).pR 10 0) = 200 := by
  show 0 + (bd b1).k ((bd b1).pR 10 0) 0 * ((0 : Int) : Rat) + (bd b1).k ((bd b1).pR 10 0) 1 * ((100 : Int) : Rat) = 200
  rw [b1_k (by decide),b1_k (by decide),show ((0 : Int) : Rat) = 0 from rfl,show ((100 : Int) : Rat) = 100 from rfl];grind
 have kp : (bd b1).Kp ((bd b1).pR 10 0) = 20000 := by
  show 0 + (bd b1).k ((bd b1).pR 10 0) 0 * ((0 : Int) : Rat) * ((0 : Int) : Rat) + (bd b1).k ((bd b1).pR 10 0) 1 * ((100 : Int) : Rat) * ((100 : Int) : Rat) = 20000
  rw [b1_k (by decide),b1_k (by decide),show ((0 : Int) : Rat) = 0 from rfl,show ((100 : Int) : Rat) = 100 from rfl];grind
 have hF : (bd b1).w - (bd b1).F 10 0 = 0 := by rw [b1_w,b1_F];grind
 have hE : -((bd b1).e 10 0) = -1000 := by rw [Bd.e,b1_G,b1_w,b1_A];grind
 have hn : Bd.newt 4 200 20000 0 (-1000) = some (5,-1 / 10) := by
  rw [Bd.newt,if_neg (by decide +kernel)]
  congr 2 <;> decide +kernel
 have hb : (bd b1).F (10 + 5) (0 + -1 / 10) = (bd b1).w ∧ (bd b1).G (10 + 5) (0 + -1 / 10) = (bd b1).w * (bd b1).A := by
  rw [b1_F,b1_G,b1_w,b1_A]
  constructor <;> grind
 rw [Bd.guess,Bd.tryP,kh,kc,kp,hF,hE,hn]
 dsimp only
 rw [if_pos hb]
 simp only [Option.some.injEq,Prod.mk.injEq]
 constructor <;> grind
theorem b1_eq : (bd b1).eqQ 1 = some (15,-1 / 10) := by
 have em : (bd b1).E (-1) = -1000 := by rw [b1_E b1_lm];grind
 have ep : (bd b1).E 1 = 3000 := by rw [b1_E b1_lp];grind
 have e0 : (bd b1).E 0 = 1000 := by rw [b1_E b1_l0];grind
 have d1 : (bd b1).dbl (-1) 1 1 = some 1 := by
  rw [Bd.dbl,if_neg]
  rw [show (-1 : Rat) * 1 = -1 by grind,em];grind
 have d2 : (bd b1).dbl 1 1 1 = some 1 := by
  rw [Bd.dbl,if_neg]
  rw [show (1 : Rat) * 1 = 1 by grind,ep];grind
 have a0 : (bd b1).at1 0 = some (15,-1 / 10) := by
  rw [Bd.at1,if_neg (by rw [e0];grind),Bd.sg_eq b1_l0,b1_guess]
 rw [Bd.eqQ,d1,d2]
 dsimp only
 rw [Bd.fst3,a0]
theorem b1_ex (t : Rat) : ∃ z,(bd b1).w ≤ (bd b1).F z t := ⟨20,by rw [b1_F,b1_w];grind⟩
theorem b1_nineteen (t : Rat) : (bnL b1.l t).length ≤ 19 := by
 rw [bnL]
 show ((bnS t (spS 0)) ++ ((bnS t (spS 100)) ++ [])).length ≤ 19
 rw [bnS,bnS]
 simp [spS]
theorem b1_places : placesL b1.l = [0,100] := by
 rw [placesL]
 have : sortN (b1.l.map (·.x)) = [0,100] := List.mergeSort_of_pairwise (by decide)
 rw [this]
 decide
theorem b1_ok1 {x : Int} {A B : Rat} (hx : x = 0 ∨ x = 100) (h : A + B * (x : Rat) ≠ 0) : okS 15 (-1 / 10) A B (spS x) = false := by
 have hy : 0 < (15 : Rat) + -1 / 10 * (x : Rat) := by
  rcases hx with rfl | rfl
  ·rw [show ((0 : Int) : Rat) = 0 from rfl];grind
  ·rw [show ((100 : Int) : Rat) = 100 from rfl];grind
 have hr : rV (spS x) 15 (-1 / 10) = 2 := by
  show befQ (spS x).k.m (prI (spS x).k.s (yQ (spS x) 15 (-1 / 10)) 1) = 2
  rw [b1_piece (by grind),spS_m]
 have hl : lV (spS x) 15 (-1 / 10) = 2 := by
  show befQ (spS x).k.m (plI (spS x).k.s (yQ (spS x) 15 (-1 / 10)) 1) = 2
  rw [b1_pieceL hy,spS_m]
 rw [okS,decide_eq_false]
 intro hn
 apply hn
 rw [hr,hl]
 rcases Classical.em (0 < A + B * (x : Rat)) with g | g
 ·exact .inl ⟨g,by grind⟩
 ·exact .inr ⟨by show A + B * (x : Rat) < 0;grind,by grind⟩
theorem b1_free {A B : Rat} (h : A ≠ 0 ∨ A + B * 100 ≠ 0) : freeB b1.l 15 (-1 / 10) A B = false := by
 show (okS 15 (-1 / 10) A B (spS 0) && (okS 15 (-1 / 10) A B (spS 100) && true)) = false
 rcases h with h | h
 ·rw [b1_ok1 (.inl rfl) (by rw [show ((0 : Int) : Rat) = 0 from rfl];grind),Bool.false_and]
 ·rw [b1_ok1 (x := 100) (.inr rfl) (by rw [show ((100 : Int) : Rat) = 100 from rfl];exact h),Bool.false_and,Bool.and_false]
theorem b1_tight2 : looseB b1 15 (-1 / 10) = false := by
 rw [looseB,List.any_eq_false]
 intro d hd
 have key : ∀ A B : Int,(A ≠ 0 ∨ A + B * 100 ≠ 0) → ¬ freeB b1.l 15 (-1 / 10) (ofQ (A : Rat)).val (ofQ (B : Rat)).val = true := by
  intro A B h
  rw [ofQ_val,ofQ_val,b1_free]
  ·decide
  ·rcases h with h | h
   ·left;exact_mod_cast h
   ·right
    have : (A : Rat) + (B : Rat) * 100 = ((A + B * 100 : Int) : Rat) := by push_cast;rfl
    rw [this];exact_mod_cast h
 rw [dirsA,turnA,b1_places] at hd
 simp at hd
 rcases hd with rfl | rfl | rfl | rfl | rfl | rfl
 ·exact key (-0) 1 (by decide)
 ·exact key (-100) 1 (by decide)
 ·exact key 0 (-1) (by decide)
 ·exact key 100 (-1) (by decide)
 ·exact key 1 0 (by decide)
 ·exact key (-1) 0 (by decide)
theorem b1_ret : Ret Tryz.prog .shared 41 [.agg (eB b1)] (.tup [.agg (eSol ⟨ofQ 15,ofQ (-1 / 10)⟩ [ofQ 30,ofQ 10]),.agg (zN ++ zN),I 0]) := by
 have hn := bal_noRef b1_ok (b1_bal.2 ⟨rfl,rfl⟩)
 have h93 := refusal_ret b1 b1_ok
 rw [refusalR,if_neg (by rw [hn.1];decide),List.find?_eq_none.2 (fun r hr => by rw [hn.2 r hr];decide)] at h93
 have h120 := equil_ret b1 b1_ok b1_nineteen b1_ex (N := 1) (by decide) b1_eq
 have va : Va ⟨ofQ 15,ofQ (-1 / 10)⟩ 15 (-1 / 10) 4 8 := ⟨Vq.ofQ (h := ⟨hq_i 15 ⟨by decide,by decide⟩⟩),Vq.ofQ (h := @HQ.div _ _ 4 4 (@HQ.neg _ _ HQ.one) ⟨hq_i 10 ⟨by decide,by decide⟩⟩)⟩
 have h121 := loose_ret b1 b1_ok ⟨ofQ 15,ofQ (-1 / 10)⟩ (ha := va) (by decide)
 rw [b1_tight2] at h121
 have h23 := forces_ret b1.l b1_ok.lim.l b1_ok.chkL ⟨ofQ 15,ofQ (-1 / 10)⟩ (ha := va) (by decide)
 rw [b1_forces] at h23
 exact solve_bal b1 b1_ok.lim b1_chk h93 _ _ h120 h121 h23
theorem b2_ret : Ret Tryz.prog .shared 41 [.agg (eB b2)] (.tup [.agg zS,.agg (eA (upA 0)),I 13]) := by
 have h93 := refusal_ret b2 b2_ok
 rw [b2_refusal] at h93
 exact solve_refd b2 b2_ok.lim b2_chk _ 13 (by decide) h93
set_option maxRecDepth 20000 in
theorem awake_ret : Ret Tryz.prog .shared 15 [] (.bool true) := by
 have w25 := bW_ret 25 ⟨by decide,by decide⟩
 have w75 := bW_ret 75 ⟨by decide,by decide⟩
 have w0 := bW_ret 0 ⟨by decide,by decide⟩
 have w1 := bW_ret 1 ⟨by decide,by decide⟩
 have s0 := spring_ret 0
 have s1 := spring_ret 100
 have p0 := pad_ret 0
 have p1 := pad_ret 100
 have hs := b1_ret
 have hp := b2_ret
 have hws := bWs_ret [30,10] (by simp) (fun z hz => i64_lit z (by simp at hz;rcases hz with rfl | rfl <;> simp))
 have hq := bQ_ret
 have e1 := sameRs_ret [ofQ 30,ofQ 10] (by simp) (fun x hx => by
  simp at hx
  rcases hx with rfl | rfl
  ·have := (vI (z := 30) ⟨by decide,by decide⟩).sz
   exact ⟨Nat.le_trans this.1 (by decide),Nat.le_trans this.2 (by decide)⟩
  ·have := (vI (z := 10) ⟨by decide,by decide⟩).sz
   exact ⟨Nat.le_trans this.1 (by decide),Nat.le_trans this.2 (by decide)⟩)
 have e2 := same_ofQ (p := -1 / 10) (n := 8) (@HQ.div _ _ 4 4 (@HQ.neg _ _ HQ.one) ⟨hq_i 10 ⟨by decide,by decide⟩⟩) (by decide)
 have e3 := same_ofQ (p := ((0 : Int) : Rat)) ⟨hq_i 0 ⟨by decide,by decide⟩⟩ (by decide)
 have e4 := same_ofQ (p := ((1 : Int) : Rat)) ⟨hq_i 1 ⟨by decide,by decide⟩⟩ (by decide)
 have hb1 : eB b1 = I 40 :: (eR (ofQ ((25 : Int) : Rat)) ++ [.sl [eS (spS 0),eS (spS 100)]]) := rfl
 have hb2 : eB b2 = I 80 :: (eR (ofQ ((75 : Int) : Rat)) ++ [.sl [eS (pdS 0),eS (pdS 100)]]) := rfl
 rw [hb1] at hs
 rw [hb2] at hp
 rw [show wsL [30,10] = [ofQ 30,ofQ 10] from rfl] at hws
 rw [show upA 0 = ⟨ofQ ((0 : Int) : Rat),ofQ ((1 : Int) : Rat)⟩ from rfl] at hp
 have hzA : eA zA = eR RR.zero ++ eR RR.zero := rfl
 clear hb1 hb2
 generalize ofQ ((25 : Int) : Rat) = W25 at *
 generalize ofQ ((75 : Int) : Rat) = W75 at *
 generalize ofQ ((0 : Int) : Rat) = W0 at *
 generalize ofQ ((1 : Int) : Rat) = W1 at *
 generalize ofQ (-1 / 10 : Rat) = WT at *
 generalize ofQ (15 : Rat) = W15 at *
 generalize [ofQ (30 : Rat),ofQ (10 : Rat)] = WF at *
 refine Ret.of_pwp layOk mixed Go.Proofs.Tryz.func15 rfl (by decide) rfl rfl ?_
 ((repeat ((fail_if_success (with_reducible refine pw_at 1 ?_));refine stx rfl ?_));refine pw_regionS 4 ?_)
 refine qst rfl rfl (q_cs rfl w25 rfl rfl) ?_
 refine qst rfl rfl (q_cs rfl s0 rfl rfl) ?_
 refine qst rfl rfl (q_cs rfl s1 rfl rfl) ?_
 refine ps_run (o_slit 1 rfl rfl rfl rfl rfl rfl rfl rfl rfl rfl rfl (by repeat' constructor) rfl ?_)
 refine ps_nil ?_
 refine psem_sm rfl (sm_gop (Ghost.takeD (k := 11) (t := 11) rfl rfl rfl) (op_v rfl ⟨trivial,trivial,trivial⟩ ?_))
 refine psem_ops ?_
 refine qst rfl rfl (q_cs rfl hs rfl rfl) ?_
 ((repeat ((fail_if_success (with_reducible refine pw_at 2 ?_));refine stx rfl ?_));refine pw_regionS 4 ?_)
 refine qst rfl rfl (q_cs rfl w75 rfl rfl) ?_
 refine qst rfl rfl (q_cs rfl p0 rfl rfl) ?_
 refine qst rfl rfl (q_cs rfl p1 rfl rfl) ?_
 refine ps_run (o_slit 1 rfl rfl rfl rfl rfl rfl rfl rfl rfl rfl rfl (by repeat' constructor) rfl ?_)
 refine ps_nil ?_
 refine psem_sm rfl (sm_gop (Ghost.takeD (k := 21) (t := 21) rfl rfl rfl) (op_v rfl ⟨trivial,trivial,trivial⟩ ?_))
 refine psem_ops ?_
 refine qst rfl rfl (q_cs rfl hp rfl rfl) ?_
 repeat refine stq rfl ?_
 refine pw_draw 32 [27,28,29,30,31,32,33,34,35,36,37,38,39,40,41,42,43,44,45,46,47,48,49,50,51,52,53,54,55,56,57,58] (by decide +kernel) ?_
 repeat refine stq rfl ?_
 refine qst rfl rfl (q_slit rfl rfl rfl rfl rfl rfl rfl rfl rfl rfl (by repeat' constructor) rfl) ?_
 repeat refine stq rfl ?_
 refine qst rfl rfl (q_cs rfl hws rfl rfl) ?_
 repeat refine stq rfl ?_
 refine qst rfl rfl (q_cp rfl e1 rfl rfl rfl) ?_
 repeat refine stq rfl ?_
 refine qst rfl rfl (q_cs rfl hq rfl rfl) ?_
 repeat refine stq rfl ?_
 refine qst rfl rfl (q_cp rfl e2 rfl rfl rfl) ?_
 repeat refine stq rfl ?_
 refine qst rfl rfl (q_cs rfl w0 rfl rfl) ?_
 repeat refine stq rfl ?_
 refine qst rfl rfl (q_cp rfl e3 rfl rfl rfl) ?_
 repeat refine stq rfl ?_
 refine qst rfl rfl (q_cs rfl w1 rfl rfl) ?_
 repeat refine stq rfl ?_
 refine qst rfl rfl (q_cp rfl e4 rfl rfl rfl) ?_
 repeat refine stq rfl ?_
 exact end1b rfl rfl rfl
end Go.Pv


namespace Go.Pv
open Go.RowKit Go.ChangeShapes Go.WideShapes Go.ChangeAt
section
variable {H : Type} {enc : TypeId × Value → H} {P : Program} {L : Lay} {w : World} {sp : Nat → Bool} {held : Bool}
def argW (L : Lay) (T : TypeId) (c : PV) : Prop := match L T with
 |some r => bif r.sh.agg then ∃ cs,c = .agg cs ∧ tyP L 12 T cs else tyP L 12 T [c]
 |none => False
theorem argW_dec (hL : LOk P L) {base : Nat} {T : TypeId} {v : Value} {d : DataW H} {ps : List MemPlace} (hp : plainT L 12 T = true) (h : DataW.Trod enc P w 0 sp held T v d ps) (hok : Value.okWide P w .any base T v) : ∃ c,DRep w (fun b => b < w.heap.size) c v ∧ argW L T c := by
 obtain ⟨fuel,h⟩ := h
 obtain ⟨pvs,h1,h2⟩ := trod_dec hL 12 T _ fuel _ hp h
 have hp' := hp
 simp only [plainT] at hp
 split at hp
 ·rename_i r hr
  have hfit := hL T r hr
  have leaf : r.sh.agg = false → (∃ c,pvs = [c]) → (v.cells.toList.length = 1 → v.cells = #[v]) → ∃ c,DRep w (fun b => b < w.heap.size) c v ∧ argW L T c := by
   rintro ha ⟨c,rfl⟩ hv
   have hc := hv (by rw [← h1.1];rfl)
   have hd := h1.2 0 c v rfl (by rw [hc];rfl)
   refine ⟨c,hd.1,?_⟩
   unfold argW
   rw [hr]
   simp only [ha,cond_false]
   exact h2
  have nagg : (∀ cs,v ≠ .agg cs) → v.cells = #[v] := by
   intro h
   cases v <;> first | rfl | exact absurd rfl (h _)
  have hty : ∃ r',L T = some r' ∧ _ := h2
  obtain ⟨r',hr',hty⟩ := hty
  rw [hr] at hr'
  have hr' := Option.some.inj hr'
  subst hr'
  split at hp
  ·rename_i hs
   rw [hs] at hty
   obtain ⟨b,rfl⟩ := hty
   obtain ⟨b',rfl⟩ : ∃ b',v = .bool b' := by
    have := okWide_bool (und_bool hfit hs) hok;exact this
   exact leaf (by rw [hs];rfl) ⟨_,rfl⟩ (fun _ => rfl)
  ·rename_i k hs
   rw [hs] at hty
   obtain ⟨m,rfl,_⟩ := hty
   obtain ⟨m',rfl⟩ := okWide_int (und_int hfit hs) hok
   exact leaf (by rw [hs];rfl) ⟨_,rfl⟩ (fun _ => rfl)
  ·rename_i hs
   rw [hs] at hty
   obtain ⟨s,rfl,_⟩ := hty
   obtain ⟨s',rfl⟩ := okWide_string (und_str hfit hs) hok
   exact leaf (by rw [hs];rfl) ⟨_,rfl⟩ (fun _ => rfl)
  ·rename_i e hs
   rw [hs] at hty
   obtain ⟨rows,rfl,_⟩ := hty
   obtain ⟨a,l,c,rfl⟩ := okWide_slice (und_sl hfit hs) hok
   exact leaf (by rw [hs];rfl) ⟨_,rfl⟩ (fun _ => rfl)
  ·rename_i fs hs
   obtain ⟨fs',hu,_⟩ := und_st hfit hs
   obtain ⟨cs,rfl,_⟩ := okWide_struct hu hok
   refine ⟨.agg pvs,?_,?_⟩
   ·have := DRep.agg (w := w) (ok := fun b => b < w.heap.size) pvs cs.toList h1.1 (fun i c v e1 e2 => (h1.2 i c v e1 e2).1)
    simpa using this
   ·unfold argW
    rw [hr]
    simp only [hs,Sh.agg,cond_true]
    exact ⟨pvs,rfl,h2⟩
  ·cases hp
 ·cases hp
theorem argsW_dec (hL : LOk P L) {base : Nat} : ∀ (ts : List TypeId) (vs : List Value) (ds : List (DataW H)) (ps : List MemPlace),ts.all (plainT L 12) = true → DataW.TrodAll enc P w 0 sp held ts vs ds ps →
  (∀ (j : Nat) t v,ts[j]? = some t → vs[j]? = some v → Value.okWide P w .any base t v) →
  ∃ pargs : List PV,pargs.length = vs.length ∧ ts.length = vs.length ∧ ds.length = vs.length ∧ (∀ (i : Nat) (c : PV) (v : Value),pargs[i]? = some c → vs[i]? = some v → DRep w (fun b => b < w.heap.size) c v) ∧ ∀ (i : Nat) t c,ts[i]? = some t → pargs[i]? = some c → argW L t c
 |[],vs,ds,ps,_,h,_ => by
  obtain ⟨rfl,rfl,_⟩ := trodAll_nil h
  exact ⟨[],rfl,rfl,rfl,fun i c v e => by simp at e,fun i t c e => by simp at e⟩
 |t :: ts,vs,ds,ps,hp,h,hok => by
  obtain ⟨v,vs',d,ds',p,q,rfl,rfl,rfl,h1,h2⟩ := trodAll_cons h
  simp only [List.all_cons,Bool.and_eq_true] at hp
  obtain ⟨c,g1,g2⟩ := argW_dec hL hp.1 h1 (hok 0 t v rfl rfl)
  obtain ⟨pargs,e1,e2,e3,e4,e5⟩ := argsW_dec hL ts vs' ds' q hp.2 h2 (fun j t v a b => hok (j + 1) t v (by simpa using a) (by simpa using b))
  refine ⟨c :: pargs,by simp [e1],by simp [e2],by simp [e3],fun i c' v' a b => ?_,fun i t' c' a b => ?_⟩
  ·cases i with
   |zero => simp at a b;subst a;subst b;exact g1
   |succ i => exact e4 i c' v' (by simpa using a) (by simpa using b)
  ·cases i with
   |zero => simp at a b;subst a;subst b;exact g2
   |succ i => exact e5 i t' c' (by simpa using a) (by simpa using b)
theorem law_stepW [Globs] (hL : LOk P L) (hl : laidOutB P = true) {f : FuncId} {fn : Func} {s : ChangeSpec} {ts : List TypeId} {T : TypeId} (hvars : s.vars = []) (hts : fn.params.toList = ts) (hplain : ts.all (plainT L 12) = true)
  (hread : ts.all (fun t => P.readableRec t && decide (t < P.types.size)) = true) (hres : fn.resultTypes = #[T]) (hT : P.underlying T = some .bool)
  (hspec : ∀ ds : List (DataW H),ds.length = ts.length → (s.fn H ds).results = [.lit (.bool true)] ∧ (s.fn H ds).args = ds ∧ (s.fn H ds).vars = [])
  (law : ∀ pargs : List PV,pargs.length = ts.length → (∀ (i : Nat) t c,ts[i]? = some t → pargs[i]? = some c → argW L t c) → Ret P .shared f pargs (.bool true))
  {W : World} {base : Nat} {args : Array Value} {ds gs : List (DataW H)} {before : List MemPlace} (hval : ∀ (j : Nat) t v,fn.params[j]? = some t → args[j]? = some v → Value.okWide P W .any base t v)
  (hglob : Globs.glob W) (hW : DataW.Whole enc P fn.params.toList s.vars false W args.toList ds gs before) :
  Calls P f args W fun e W' => ∃ v,e = .returned v ∧ s.post enc P fn false true false false W args v W' := by
 have hW' := hW
 obtain ⟨p,q,hA,hV,hpq,hfz,hnd⟩ := hW
 rw [hvars] at hV
 obtain ⟨rfl,rfl⟩ := trodVars_none hV
 rw [hts] at hA
 obtain ⟨pargs,e1,e2,e3,e4,e5⟩ := argsW_dec hL (base := base) ts _ _ _ hplain hA (fun j t v a b => hval j t v (by rw [← hts] at a;simpa using a) (by simpa using b))
 have hret := law pargs (by omega) e5
 have hcall := hret.2 W (fun _ => False) args.toList hglob (fun b hb => hb.elim) (by omega) (fun i c v a b => (e4 i c v a b).weaken fun b hb => ⟨hb,fun h => h⟩)
 have hargs : args.toList.toArray = args := by simp
 rw [hargs] at hcall
 refine hcall.mono ?_
 rintro e W' ⟨v,rfl,hb,hd⟩
 refine ⟨v,rfl,?_⟩
 have hv : v = .bool true := by cases hd;rfl
 subst hv
 have hlt : ∀ x ∈ p,x.block < W.heap.size := fun x hx => by
  have := hW'.lt x (by rw [hpq];simp [hx])
  simpa using this
 obtain ⟨s1,s2,s3⟩ := hspec ds (by omega)
 have hgs : ds ++ ([] : List (DataW H)) = ds := List.append_nil ds
 refine ⟨ds,[],before,[],p,[],hW',?_,?_,?_,World.keptBut_mono (fun x hx => hx.elim) (hb.frame (fun _ => False)),fun h => by cases h⟩
 ·rw [hgs,s1,hres]
  exact trodAll_mk1 (shut_bool hT true)
 ·rw [hgs,s2,hts]
  exact trodAll_below hl hb ts _ _ _ (fun t ht => by
   have := List.all_eq_true.1 hread t ht
   simpa using this) hA hlt
 ·rw [hgs,s3,hvars]
  exact rfl
end
end Go.Pv


set_option maxHeartbeats 2000000
namespace Go.Pv
attribute [local irreducible] PWP POps PQuiet PSem XThen XBlock RetPost InlPost
open Go.Proofs
theorem rows_mapF {α : Type} {f : α → List PV} {p : α → Prop} : ∀ {rows : List (List PV)},(∀ row ∈ rows,∃ x,row = f x ∧ p x) → ∃ l : List α,rows = l.map f ∧ ∀ x ∈ l,p x
 |[],_ => ⟨[],rfl,fun x h => by cases h⟩
 |row :: rows,h => by
  obtain ⟨x,rfl,hx⟩ := h row (by simp)
  obtain ⟨l,rfl,hl⟩ := rows_mapF (rows := rows) fun r hr => h r (by simp [hr])
  exact ⟨x :: l,rfl,fun y hy => by
   rcases List.mem_cons.1 hy with rfl | hy
   ·exact hx
   ·exact hl y hy⟩
theorem max63 {n : Nat} (h : n ≤ maxLen) : n ≤ 9223372036854775807 := by
 have e : maxLen = 9223372036854775807 := by decide
 omega
theorem dec_u16s {n : Nat} {cs : List PV} (h : tyP lay.get (n + 2) 22 cs) : ∃ l : List UInt16,cs = [.sl (l.map eU)] := by
 obtain ⟨rows,rfl,hr⟩ := tyP_sl h rfl
 obtain ⟨l,rfl,-⟩ := rows_mapF (f := eU) (p := fun _ => True) fun row hrow => by
  obtain ⟨m,rfl,h1,h2⟩ := tyP_intB (hr row hrow) rfl
  have h1 : (0 : Int) ≤ m := h1
  have h2 : m ≤ (65535 : Int) := h2
  refine ⟨UInt16.ofNat m.toNat,?_,trivial⟩
  rw [eU,u16_nat]
  congr 2
  omega
 exact ⟨l,rfl⟩
theorem dec_I {n : Nat} {cs : List PV} (h : tyP lay.get (n + 3) 24 cs) : ∃ a : RI,cs = eI a := by
 obtain ⟨parts,rfl,hl,hp⟩ := tyP_st h rfl
 match parts,hl,hp with
 |[p0,p1],_,hp =>
  obtain ⟨b,rfl⟩ := tyP_bool (hp 0 _ p0 rfl rfl) rfl
  obtain ⟨l,rfl⟩ := dec_u16s (hp 1 _ p1 rfl rfl)
  exact ⟨⟨b,l⟩,rfl⟩
theorem dec_R {n : Nat} {cs : List PV} (h : tyP lay.get (n + 4) 26 cs) : ∃ a : RR,cs = eR a := by
 obtain ⟨parts,rfl,hl,hp⟩ := tyP_st h rfl
 match parts,hl,hp with
 |[p0,p1],_,hp =>
  obtain ⟨a,rfl⟩ := dec_I (hp 0 _ p0 rfl rfl)
  obtain ⟨b,rfl⟩ := dec_I (hp 1 _ p1 rfl rfl)
  exact ⟨⟨a,b⟩,rfl⟩
theorem dec_int {n : Nat} {cs : List PV} (h : tyP lay.get (n + 1) 3 cs) : ∃ z : Int,cs = eN z ∧ i64 z := by
 obtain ⟨m,rfl,h1,h2⟩ := tyP_intB h rfl
 exact ⟨m,rfl,h1,h2⟩
theorem dec_ints {n : Nat} {cs : List PV} (h : tyP lay.get (n + 2) 86 cs) : ∃ l : List Int,cs = [.sl (l.map eN)] ∧ l.length ≤ 9223372036854775807 ∧ ∀ z ∈ l,i64 z := by
 obtain ⟨rows,rfl,hlen,hr⟩ := tyP_slB h rfl
 obtain ⟨l,rfl,hz⟩ := rows_mapF (f := eN) (p := i64) fun row hrow => dec_int (hr row hrow)
 exact ⟨l,rfl,by rw [List.length_map] at hlen;exact max63 hlen,hz⟩
theorem dec_Rs {n : Nat} {cs : List PV} (h : tyP lay.get (n + 5) 42 cs) : ∃ l : List RR,cs = [.sl (l.map eR)] ∧ l.length ≤ 9223372036854775807 := by
 obtain ⟨rows,rfl,hlen,hr⟩ := tyP_slB h rfl
 obtain ⟨l,rfl,-⟩ := rows_mapF (f := eR) (p := fun _ => True) fun row hrow => by
  obtain ⟨a,rfl⟩ := dec_R (hr row hrow)
  exact ⟨a,rfl,trivial⟩
 exact ⟨l,rfl,by rw [List.length_map] at hlen;exact max63 hlen⟩
theorem dec_C {n : Nat} {cs : List PV} (h : tyP lay.get (n + 6) 120 cs) : ∃ c : CR,cs = eC c ∧ c.S.length ≤ 9223372036854775807 ∧ c.M.length ≤ 9223372036854775807 ∧ ∀ z ∈ c.S,i64 z := by
 obtain ⟨parts,rfl,hl,hp⟩ := tyP_st h rfl
 match parts,hl,hp with
 |[p0,p1],_,hp =>
  obtain ⟨S,rfl,h1,h2⟩ := dec_ints (hp 0 _ p0 rfl rfl)
  obtain ⟨M,rfl,h3⟩ := dec_Rs (hp 1 _ p1 rfl rfl)
  exact ⟨⟨S,M⟩,rfl,h1,h3,h2⟩
theorem dec_S {n : Nat} {cs : List PV} (h : tyP lay.get (n + 7) 122 cs) : ∃ s : SR,cs = eS s ∧ (DataS s ∧ s.k.S.length ≤ 9223372036854775807 ∧ s.k.M.length ≤ 9223372036854775807) := by
 obtain ⟨parts,rfl,hl,hp⟩ := tyP_st h rfl
 match parts,hl,hp with
 |[p0,p1,p2],_,hp =>
  obtain ⟨x,rfl,hx⟩ := dec_int (hp 0 _ p0 rfl rfl)
  obtain ⟨c,rfl⟩ := dec_R (hp 1 _ p1 rfl rfl)
  obtain ⟨k,rfl,h1,h2,h3⟩ := dec_C (hp 2 _ p2 rfl rfl)
  exact ⟨⟨x,c,k⟩,by simp [eS,eN],⟨hx,h3⟩,h1,h2⟩
theorem dec_L {n : Nat} {cs : List PV} (h : tyP lay.get (n + 8) 27 cs) : ∃ l : List SR,cs = [.sl (l.map eS)] ∧ LenL l ∧ DataL l := by
 obtain ⟨rows,rfl,hlen,hr⟩ := tyP_slB h rfl
 obtain ⟨l,rfl,hz⟩ := rows_mapF (f := eS) (p := fun s => DataS s ∧ s.k.S.length ≤ 9223372036854775807 ∧ s.k.M.length ≤ 9223372036854775807) fun row hrow => dec_S (hr row hrow)
 exact ⟨l,rfl,⟨by rw [List.length_map] at hlen;exact max63 hlen,fun s hs => (hz s hs).2⟩,fun s hs => (hz s hs).1⟩
structure ArgB (b : BR) : Prop where
 w : i64 b.w
 len : LenL b.l
 data : DataL b.l
theorem dec_B {c : PV} (h : argW lay.get 29 c) : ∃ b : BR,c = .agg (eB b) ∧ ArgB b := by
 obtain ⟨cs,rfl,h⟩ : ∃ cs,c = .agg cs ∧ tyP lay.get 12 29 cs := h
 obtain ⟨parts,rfl,hl,hp⟩ := tyP_st h rfl
 match parts,hl,hp with
 |[p0,p1,p2],_,hp =>
  obtain ⟨w,rfl,hw⟩ := dec_int (hp 0 _ p0 rfl rfl)
  obtain ⟨a,rfl⟩ := dec_R (hp 1 _ p1 rfl rfl)
  obtain ⟨l,rfl,h1,h2⟩ := dec_L (hp 2 _ p2 rfl rfl)
  exact ⟨⟨w,a,l⟩,by simp [eB,eN],hw,h1,h2⟩
end Go.Pv

