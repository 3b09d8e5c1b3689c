/- Texts of one hand, gathered: FsJ, FsK, FuC. -/
import Derived.Test.YtjejnoojnndnlaaGreatCa6
set_option linter.unusedSectionVars false
set_option linter.unusedSimpArgs false
set_option linter.unusedVariables false
set_option linter.unnecessarySimpa false
set_option maxHeartbeats 2000000
namespace Go.Pv
attribute [local irreducible] PWP POps PQuiet PSem au aq aj ai
open Go.Proofs
theorem uj {c : CR} (hc : c.Lim) {p : Rat} {n N : Nat} (hp : HQ p n) (k : Nat) : HQ (eW N c.s c.m p k) (4 * n + 60) := by
 rw [← ui]
 have hu : HQ (uQ N c.s p k) (n + 9 + 4) := Bi (CD hc hp k)
 exact (@HQ.mul _ _ _ _ (CG hc k) (@HQ.mul _ _ _ _ hu (@HQ.add _ _ _ _ (@HQ.div _ _ _ _ hu HQ.two) (@HQ.sub _ _ _ _ hp (yw hc hp k))))).mono (by omega)
def oo (l : List SR) (z t : Rat) (i : Nat) : Rat := mR (l.getD i dS).k.S.length (l.getD i dS).k.s (l.getD i dS).k.m (yI l z t i)
theorem B0 (b : BR) (z t : Rat) : (bd b).U z t = ac (oo b.l z t) b.l.length - (b.w : Rat) * (z + t * b.a.val) := rfl
theorem rg {l : List SR} (hl : fa l) (hf : kI l) {z t : Rat} {n m : Nat} (hz : HQ z n) (ht : HQ t m) {i : Nat} (hi : i < l.length) : HQ (oo l z t i) (32 * (n + m) + 1300) := by
 have hs := hl.1 _ (aB hi)
 have h8 := hf.2 _ (aB hi)
 rw [oo,mR]
 exact (aS (m := 4 * (13 + (n + (m + 4) + 1) + 1) + 60) _ fun k _ => uj hs.k (nW hs hz ht) k).mono (by have := Nat.mul_le_mul h8 (Nat.le_refl (4 * (13 + (n + (m + 4) + 1) + 1) + 60 + 1));omega)
theorem yj (e0 : Rat) (f : Nat → Rat) (n : Nat) : e0 + ac f n + f n = e0 + ac f (n + 1) := by rw [ac];grind
set_option maxRecDepth 20000 in
theorem kD (b : BR) (hb : b.Ok) (a : AR) {z t : Rat} {n m : Nat} [ha : Va a z t n m] (hn : n + m ≤ 45000) : Ret Tryz.prog .shared 34 [.agg (eB b),.agg (eA a)] (.tup [.agg (eR (ofQ ((bd b).U z t))),I 0]) := by
 have hcb := be b hb.lim
 rw [hb.chk] at hcb
 have hl := hb.lim.l
 have hf := hb.few
 have h12 := hf.1
 have hck := hb.chkL
 have hml : (b.l.map eS).length = b.l.length := by simp
 have hwr := (je hb.chk)
 have zw : Zb (-b.w) := aR (by omega) (by omega)
 have hneg : IntKind.i64.wrap (0 - b.w) = -b.w := by rw [wrap_i64 (by omega) (by omega)];omega
 have k1 := dy a.t b.a (hx := ha.t) (hy := hb.lim.a.v) (by omega) (by decide)
 have vk1 : Vq (ofQ (t * b.a.val)) (t * b.a.val) (m + 1 + 13) := Vq.ofQ (h := @HQ.mul _ _ _ _ ha.t.hq hb.lim.a.v.hq)
 have k2 := dg a.z (ofQ (t * b.a.val)) (hx := ha.z) (hy := vk1) (by omega) (by omega)
 have vk2 : Vq (ofQ (z + t * b.a.val)) (z + t * b.a.val) (n + 1 + (m + 1 + 13) + 1) := Vq.ofQ (h := @HQ.add _ _ _ _ ha.z.hq (cy vk1))
 have k3 := aV (-b.w) ⟨by omega,by omega⟩
 have k4 := dy (ofQ ((-b.w : Int) : Rat)) (ofQ (z + t * b.a.val)) (hy := vk2) (by decide) (by omega)
 have hU : (bd b).U z t = ((-b.w : Int) : Rat) * (z + t * b.a.val) + ac (oo b.l z t) b.l.length := by rw [B0];push_cast;grind
 generalize hE0 : ((-b.w : Int) : Rat) * (z + t * b.a.val) = e0 at *
 have hE0q : HQ e0 (4 + (n + 1 + (m + 1 + 13) + 1)) := by rw [← hE0];exact @HQ.mul _ _ 4 _ HQ.int (cy vk2)
 have hBd : ∀ i,i ≤ b.l.length → i * (32 * (n + 1 + (m + 1)) + 1300 + 1) + 4 ≤ 18000000 := fun i hi => by have := Nat.mul_le_mul (show i ≤ 12 by omega) (Nat.le_refl (32 * (n + 1 + (m + 1)) + 1300 + 1));omega
 have vs : ∀ i,i ≤ b.l.length → Vq (ofQ (e0 + ac (oo b.l z t) i)) (e0 + ac (oo b.l z t) i) (4 + (n + 1 + (m + 1 + 13) + 1) + (i * (32 * (n + 1 + (m + 1)) + 1300 + 1) + 4) + 1) := fun i hi => Vq.ofQ (h := @HQ.add _ _ _ _ hE0q (aS i fun k hk => rg hl hf ha.z.hq ha.t.hq (by omega)))
 have vE : ∀ i,i < b.l.length → Vq (ofQ (oo b.l z t i)) (oo b.l z t i) (32 * (n + 1 + (m + 1)) + 1300) := fun i hi => Vq.ofQ (h := rg hl hf ha.z.hq ha.t.hq hi)
 have him := fun x hx => gR x (hl.1 x hx) a (z := z) (t := t) (by omega) (by omega)
 have hin : ∀ i,i < b.l.length → Ret Tryz.prog .shared 107 [.agg (eC (b.l.getD i dS).k),.agg (eR (ofQ (yI b.l z t i)))] (.tup [.agg (eR (ofQ (oo b.l z t i))),I 0]) := fun i hi => by
  have v1 : Vq (ofQ (yI b.l z t i)) (yI b.l z t i) (13 + (n + 1 + (m + 1 + 4) + 1) + 1) := Vq.ofQ (h := nW (hl.1 _ (aB hi)) ha.z.hq ha.t.hq)
  have hcu := bM hck _ (aB hi)
  have := oC _ (hl.1 _ (aB hi)).k hcu (ofQ (yI b.l z t i)) (hy := v1) (by omega)
  rwa [qr (cd hcu).2.2.2] at this
 generalize ofQ (z + t * b.a.val) = K2 at *
 generalize ofQ (t * b.a.val) = K1 at *
 rw [hU]
 have hS0 : e0 = e0 + ac (oo b.l z t) 0 := by rw [ac];grind
 rw [hS0] at k4
 generalize ofQ ((-b.w : Int) : Rat) = K3 at *
 clear hU vk1 vk2 hb hE0 hE0q zw hwr
 obtain ⟨w,ba,l⟩ := b
 obtain ⟨az,at'⟩ := a
 simp only at *
 refine Ret.of_pwp layOk mixed Go.Proofs.Tryz.func34 rfl (by decide) rfl rfl ?_
 repeat refine aa rfl ?_
 refine aJ rfl rfl rfl hcb rfl rfl rfl ?_
 repeat refine aa rfl ?_
 refine bk 13 1 [18,19,20,21,22,23,24,25,26,27,28,29,30,7] [] (by decide +kernel) rfl ?_
 repeat refine aa rfl ?_
 rw [hneg]
 refine am rfl rfl rfl k3 rfl rfl ?_
 repeat refine aa rfl ?_
 refine am rfl rfl rfl k1 rfl rfl ?_
 repeat refine aa rfl ?_
 refine am rfl rfl rfl k2 rfl rfl ?_
 repeat refine aa rfl ?_
 refine am rfl rfl rfl k4 rfl rfl ?_
 repeat refine aa rfl ?_
 refine ap (fun i : Nat => i ≤ l.length) (fun i => [(3,.ptr 3 1 0 0),(4,.ptr 4 1 0 0),(7,.ptr 7 1 0 0),(32,.sl (l.map eS)),(33,I l.length),(34,I (i : Nat))])
  (fun i => [(3,1,⟨40,8,[eA ⟨az,at'⟩],2⟩),(4,1,⟨26,4,[zN],2⟩),(7,1,⟨26,4,[eR (ofQ (e0 + ac (oo l z t) i))],2⟩)]) (fun i => l.length - i) 0 (Nat.zero_le _) ⟨rfl,rfl,rfl,rfl,by rw [← hml];rfl,rfl,rfl,rfl,rfl,trivial⟩ ?_
 intro i s hi
 repeat refine aa rfl ?_
 refine ab rfl ?_ ?_<;>intro h
 ·have hlt : i < l.length := by have := of_decide_eq_true h;omega
  clear h
  have hx := bj (d := dS) hlt
  have hw := iA i
  have e1 := him _ (aB hlt)
  rw [show yQ (l.getD i dS) z t = yI l z t i from rfl] at e1
  have e2 := hin i hlt
  have e3 := dg (ofQ (e0 + ac (oo l z t) i)) (ofQ (oo l z t i)) (hx := vs i hi) (hy := vE i hlt) (by have := hBd i hi;omega) (by omega)
  rw [yj] at e3
  generalize hS1 : ofQ (e0 + ac (oo l z t) (i + 1)) = S1 at *
  generalize ofQ (e0 + ac (oo l z t) i) = S0 at *
  generalize ofQ (oo l z t i) = E0 at *
  generalize ofQ (yI l z t i) = Y0 at *
  generalize l.getD i dS = x at *
  obtain ⟨xx,xc,xk⟩ := x
  simp only at *
  repeat refine aa rfl ?_
  refine bL rfl rfl rfl rfl rfl rfl rfl hx rfl ?_
  repeat refine aa rfl ?_
  (repeat ((fail_if_success (with_reducible refine aP 8 ?_));refine cN rfl ?_))
  refine aC (ky 10) ?_
  refine bK [10] [9,10] (by decide +kernel) ?_
  repeat refine aa rfl ?_
  refine am rfl rfl rfl e1 rfl rfl ?_
  repeat refine aa rfl ?_
  refine am rfl rfl rfl e2 rfl rfl ?_
  repeat refine aa rfl ?_
  refine am rfl rfl rfl e3 rfl rfl ?_
  repeat refine aa rfl ?_
  refine ⟨i + 1,hlt,by omega,rfl,rfl,rfl,rfl,rfl,congrArg I hw,rfl,rfl,?_,trivial⟩
  show (_ : Nat × Option Cont) = (1,some (Cont.mk 26 4 [eR (ofQ (e0 + ac (oo l z t) (i + 1)))] 2))
  rw [hS1]
  rfl
 ·have hie : i = l.length := by have := of_decide_eq_false h;omega
  clear h
  subst hie
  generalize ofQ (e0 + ac (oo l z t) l.length) = S0 at *
  repeat refine aa rfl ?_
  exact aK rfl rfl rfl
theorem zT (x y : RR) {p q : Rat} {n m : Nat} [hx : Vq x p n] [hy : Vq y q m] (hn : n ≤ 18000000) (hm : m ≤ 1000000) : Ret Tryz.prog .shared 100 [.agg (eR x),.agg (eR y)] (.agg (eR (ofQ (p - q)))) := by
 have h1 := hx.sz
 have h2 := hy.sz
 have hneg := jw y (by omega) (by omega)
 have hl := p8 (n := m) h2.1 h2.2
 have ha := lv x (ofQ (-y.val)) (by omega) (by omega) (by omega) (by omega)
 rw [ofQ_val,← Rat.sub_eq_add_neg,hx.val,hy.val] at ha
 rw [hy.val] at hneg
 generalize ofQ (-q) = Y at *
 generalize ofQ (p - q) = X at *
 refine Ret.of_pwp layOk mixed Go.Proofs.Tryz.func100 rfl (by decide) rfl rfl ?_
 repeat refine aa rfl ?_
 refine ah 4 [5,6,7,8] (by decide +kernel) ?_
 repeat refine aa rfl ?_
 refine am rfl rfl rfl hneg rfl rfl ?_
 repeat refine aa rfl ?_
 refine am rfl rfl rfl ha rfl rfl ?_
 repeat refine aa rfl ?_
 exact aK rfl rfl rfl
theorem yY (x y : RR) {p q : Rat} {n m : Nat} [hx : Vq x p n] [hy : Vq y q m] (hn : n ≤ 18000000) (hm : m ≤ 1000000) : Ret Tryz.prog .shared 65 [.agg (eR x),.agg (eR y)] (I (sgn (p - q))) := by
 have hs := zT x y (by omega) (by omega)
 have hh : hq (p - q) (n + 1 + (m + 1) + 1) := (HQ.sub (h1 := hx.hq) (h2 := hy.hq)).ok
 have hl := dG hh
 have hg := i6 (ofQ (p - q)) (by omega) (by omega)
 rw [ofQ_val] at hg
 generalize ofQ (p - q) = X at *
 generalize sgn (p - q) = g at *
 refine Ret.of_pwp layOk mixed Go.Proofs.Tryz.func65 rfl (by decide) rfl rfl ?_
 repeat refine aa rfl ?_
 refine am rfl rfl rfl hs rfl rfl ?_
 repeat refine aa rfl ?_
 refine aJ rfl rfl rfl hg rfl rfl rfl ?_
 repeat refine aa rfl ?_
 exact aX rfl rfl rfl
theorem BS {b : BR} (hok : b.Ok) {z t : Rat} {n m : Nat} (hz : HQ z n) (ht : HQ t m) : HQ ((bd b).U z t) (12 * (32 * (n + m) + 1301) + 2 * n + 2 * m + 60) := by
 rw [B0]
 have zw : Zb b.w := aR hok.lim.w.1 hok.lim.w.2
 have h1 : HQ (ac (oo b.l z t) b.l.length) (12 * (32 * (n + m) + 1301) + 4) := by
  refine (aS b.l.length fun k hk => rg hok.lim.l hok.few hz ht hk).mono ?_
  exact Nat.add_le_add_right (Nat.mul_le_mul hok.few.1 (Nat.le_refl _)) 4
 have h2 : HQ ((b.w : Rat) * (z + t * b.a.val)) (4 + (n + (m + 13) + 1)) := @HQ.mul _ _ 4 _ HQ.int (@HQ.add _ _ _ _ hz (@HQ.mul _ _ _ _ ht hok.lim.a.v.hq))
 refine (@HQ.sub _ _ _ _ h1 h2).mono ?_
 omega
set_option maxRecDepth 20000 in
theorem least_law (b : BR) (hb : ArgB b) (a : AR) : Ret Tryz.prog .shared 13 [.agg (eB b),.agg (eA a)] (.bool true) := by
 have aw := jU
 have h1 := l8 b hb.len
 have h2 := m0 a
 have hmg := j0 hb
 have hbr := pn (a := a)
 generalize io b = x1 at *
 generalize jV a = x2 at *
 obtain ⟨az,at'⟩ := a
 simp only at hbr
 refine Ret.of_pwp layOk mixed Go.Proofs.Tryz.func13 rfl (by decide) rfl rfl ?_
 repeat refine aa rfl ?_
 refine aJ rfl rfl rfl aw rfl rfl rfl ?_
 repeat refine aa rfl ?_
 refine aJ rfl rfl rfl h1 rfl rfl rfl ?_
 cases x1
 ·repeat refine aa rfl ?_
  exact aI rfl rfl rfl
 repeat refine aa rfl ?_
 refine aJ rfl rfl rfl h2 rfl rfl rfl ?_
 cases x2
 ·repeat refine aa rfl ?_
  exact aI rfl rfl rfl
 repeat refine aa rfl ?_
 have hg := hmg rfl
 have va := hbr rfl
 have sv := kj b hg
 clear hmg hbr h1 h2 aw
 by_cases x7 : bq b = 0
 rotate_left
 ·rw [fN,if_neg x7,SQ.pv] at sv
  generalize bq b = e at *
  refine am rfl rfl rfl sv rfl rfl ?_
  repeat refine aa rfl ?_
  refine ab rfl ?_ ?_<;>intro h
  ·clear h
   repeat refine aa rfl ?_
   exact aI rfl rfl rfl
  ·simp at h
   exact absurd h x7
 obtain ⟨hok,-,-⟩ := hg.2 x7
 cases Bn hg x7 with
 |none r' e he hr hv hn g1 g2 =>
  rw [g1,SQ.pv] at sv
  rcases he with rfl | rfl
  ·refine am rfl rfl rfl sv rfl rfl ?_
   repeat refine aa rfl ?_
   exact aI rfl rfl rfl
  ·refine am rfl rfl rfl sv rfl rfl ?_
   repeat refine aa rfl ?_
   exact aI rfl rfl rfl
 |loose z t hn hbal hz ht g1 g2 =>
  rw [g1,SQ.pv] at sv
  refine am rfl rfl rfl sv rfl rfl ?_
  repeat refine aa rfl ?_
  exact aI rfl rfl rfl
 |one z t hn hbal hz ht hu g1 g2 =>
  rw [g1,SQ.pv] at sv
  have vz : Va ⟨ofQ z,ofQ t⟩ z t 24000 20000 := ⟨Vq.ofQ (h := hz),Vq.ofQ (h := ht)⟩
  have p1 := kD b hok ⟨ofQ z,ofQ t⟩ (ha := vz) (by decide)
  have p2 := kD b hok ⟨az,at'⟩ (ha := va) (by decide)
  have p3 := dp b.l hok.lim.l hok.chkL ⟨az,at'⟩ (ha := va) (by decide)
  have hFL := pc hok.lim.l hok.few va.z.hq va.t.hq
  have p5 := mf b hok ⟨az,at'⟩ (FL b.l az.val at'.val) (ha := va) (by decide) hFL (by decide)
  rw [tg] at p5
  have q1 := (BS hok hz ht).mono (m := 17400000) (by decide)
  have q2 := (BS hok va.z.hq va.t.hq).mono (m := 1000000) (by decide)
  have p4 := yY (ofQ ((bd b).U z t)) (ofQ ((bd b).U az.val at'.val)) (hx := Vq.ofQ (h := q1)) (hy := Vq.ofQ (h := q2)) (by decide) (by decide)
  obtain ⟨l1,l2⟩ := Bd.least_energy (dK hok) hbal az.val at'.val
  have hle : sgn ((bd b).U z t - (bd b).U az.val at'.val) ≤ 0 := by
   have := fL ((bd b).U z t - (bd b).U az.val at'.val)
   rcases Int.lt_or_le 0 (sgn ((bd b).U z t - (bd b).U az.val at'.val)) with g | g
   ·have := this.1 g
    grind
   ·exact g
  have hm1 : ¬ sgn ((bd b).U z t - (bd b).U az.val at'.val) = 0 → sgn ((bd b).U z t - (bd b).U az.val at'.val) = -1 := by
   intro h
   revert h hle
   unfold sgn
   split
   ·exact fun _ _ => rfl
   ·split
    ·exact fun _ h => absurd rfl h
    ·exact fun h => absurd h (by decide)
  have he0 : sgn ((bd b).U z t - (bd b).U az.val at'.val) = 0 ↔ (bd b).Bal az.val at'.val := by
   rw [gE]
   constructor
   ·intro g
    exact bal_of_f hbal (l2 (by grind))
   ·intro g
    have := (Bd.least_energy (dK hok) g z t).1
    grind
  have hsame : (bd b).Bal az.val at'.val → FL b.l az.val at'.val = FL b.l z t := fun g => vL hok hbal g
  have hlen : (FL b.l z t).length ≤ 1000000 := by rw [FL,List.length_map];have := hok.few.1;omega
  have s1 := i5 (FL b.l z t) hlen (fun x hx => ⟨Nat.le_trans (pc hok.lim.l hok.few hz ht x hx).1 (by decide),Nat.le_trans (pc hok.lim.l hok.few hz ht x hx).2 (by decide)⟩)
  generalize sgn ((bd b).U z t - (bd b).U az.val at'.val) = g at *
  generalize ofQ ((bd b).U z t) = U1 at *
  generalize ofQ ((bd b).U az.val at'.val) = U2 at *
  by_cases hB : (bd b).Bal az.val at'.val
  ·rw [if_pos hB] at p5
   have g0 := he0.2 hB
   clear hm1
   subst g0
   rw [hsame hB] at p3 p5
   clear hFL q1 q2 hle he0 hsame hlen l1 l2
   generalize FL b.l z t = FF at *
   generalize ofQ z = zz at *
   generalize ofQ t = tt at *
   refine am rfl rfl rfl sv rfl rfl ?_
   repeat refine aa rfl ?_
   refine am rfl rfl rfl p1 rfl rfl ?_
   repeat refine aa rfl ?_
   refine am rfl rfl rfl p2 rfl rfl ?_
   repeat refine aa rfl ?_
   refine am rfl rfl rfl p3 rfl rfl ?_
   repeat refine aa rfl ?_
   refine aJ rfl rfl rfl p4 rfl rfl rfl ?_
   repeat refine aa rfl ?_
   refine aJ rfl rfl rfl p5 rfl rfl rfl ?_
   repeat refine aa rfl ?_
   refine aJ rfl rfl rfl s1 rfl rfl rfl ?_
   repeat refine aa rfl ?_
   exact aI rfl rfl rfl
  ·rw [if_neg hB] at p5
   have g0 := hm1 fun h => hB (he0.1 h)
   subst g0
   clear hm1 hFL q1 q2 he0 hsame hlen l1 l2
   generalize FL b.l z t = FF at *
   generalize FL b.l az.val at'.val = FG at *
   generalize ofQ z = zz at *
   generalize ofQ t = tt at *
   refine am rfl rfl rfl sv rfl rfl ?_
   repeat refine aa rfl ?_
   refine am rfl rfl rfl p1 rfl rfl ?_
   repeat refine aa rfl ?_
   refine am rfl rfl rfl p2 rfl rfl ?_
   repeat refine aa rfl ?_
   refine am rfl rfl rfl p3 rfl rfl ?_
   repeat refine aa rfl ?_
   refine aJ rfl rfl rfl p4 rfl rfl rfl ?_
   repeat refine aa rfl ?_
   refine aJ rfl rfl rfl p5 rfl rfl rfl ?_
   repeat refine aa rfl ?_
   exact aI rfl rfl rfl
end Go.Pv
