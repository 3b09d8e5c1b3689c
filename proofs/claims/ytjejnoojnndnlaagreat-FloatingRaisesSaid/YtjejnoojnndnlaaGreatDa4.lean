/- Texts of one hand, gathered: FbP, FbQ, FaE, FmA, FmB, FcA, PvRg, FcB, FcC, FmC, FmD, FmE, FmF, FmG, FmH, FmI, FcD, FcE, FcF, FcG, FcH, FcI, FcJ, FcK, FcL, FcM, FcN, FcO, FcP, LeC, Shelf, FcQ, FcR, FcS, FcT, FcU, FmK. -/
import Derived.Test.YtjejnoojnndnlaaGreatDa3
import Derived.Sort.Grow
import Derived.Shelf.GgSortFunc.RowK
import Derived.Shelf.Sort.Plain
import Derived.Ground.Names2Prog
import Derived.Shelf.Slices.CompactI
import Derived.Shelf.Slices.Cells
import Derived.Shelf.Slices.In.SortNone
import Derived.Test.YtjejnoojnndnlaaGreatProg
import Derived.Lib.SlicesCompact
set_option linter.unusedSectionVars false
set_option linter.unusedSimpArgs false
set_option linter.unusedVariables false
set_option linter.unnecessarySimpa false
set_option maxHeartbeats 2000000
namespace Go.Pv
attribute [local irreducible] PWP POps PQuiet PSem au ar aj ai
open Go.Proofs
theorem eO {q : Rat} {n : Nat} (h : hq q n) : (ofQ q).n.l.length ≤ n ∧ (ofQ q).d.l.length ≤ n := (ia h).ok
theorem dw (x y : RR) {p q : Rat} {n m : Nat} [hx : Vq x p n] [hy : Vq y q m] (hn : n ≤ 20000000) (hm : m ≤ 20000000) : Ret Tryz.prog .shared 106 [.agg (eR x),.agg (eR y)] (.agg (eR (ofQ (p + q)))) := by
 have h1 := hx.sz
 have h2 := hy.sz
 have := oU x y (by omega) (by omega) (by omega) (by omega)
 rwa [hx.val,hy.val] at this
theorem wv {x : RR} {n : Nat} (h1 : x.n.l.length ≤ n) (h2 : x.d.l.length ≤ n) : (ofQ (-x.val)).n.l.length ≤ n + 1 ∧ (ofQ (-x.val)).d.l.length ≤ n + 1 :=
 eO (lw (SZ.hq (x := x) ⟨h1,h2⟩))
theorem xD (x y : RR) (hxn : x.n.l.length ≤ 10000000) (hxd : x.d.l.length ≤ 10000000) (hyn : y.n.l.length ≤ 10000000) (hyd : y.d.l.length ≤ 10000000) : Ret Tryz.prog .shared 100 [.agg (eR x),.agg (eR y)] (.agg (eR (ofQ (x.val - y.val)))) := by
 have hneg := og y (by omega) (by omega)
 have hl := wv hyn hyd
 have ha := oU x (ofQ (-y.val)) (by omega) (by omega) (by omega) (by omega)
 rw [ofQ_val,← Rat.sub_eq_add_neg] at ha
 generalize ofQ (-y.val) = Y at *
 generalize ofQ (x.val - y.val) = X at *
 refine Ret.of_pwp layOk mixed Go.Proofs.Tryz.func100 rfl (by decide) rfl rfl ?_
 repeat refine aa rfl ?_
 refine ah 4 [5,6,7,8] (by decide +kernel) ?_
 repeat refine aa rfl ?_
 refine ap rfl rfl rfl hneg rfl rfl ?_
 repeat refine aa rfl ?_
 refine ap rfl rfl rfl ha rfl rfl ?_
 repeat refine aa rfl ?_
 exact aK rfl rfl rfl
theorem jX (x y : RR) {p q : Rat} {n m : Nat} [hx : Vq x p n] [hy : Vq y q m] (hn : n ≤ 10000000) (hm : m ≤ 10000000) : Ret Tryz.prog .shared 100 [.agg (eR x),.agg (eR y)] (.agg (eR (ofQ (p - q)))) := by
 have h1 := hx.sz
 have h2 := hy.sz
 have := xD x y (by omega) (by omega) (by omega) (by omega)
 rwa [hx.val,hy.val] at this
theorem wn (x y : RR) (hxn : x.n.l.length ≤ 20000000) (hxd : x.d.l.length ≤ 20000000) (hyn : y.n.l.length ≤ 20000000) (hyd : y.d.l.length ≤ 20000000) : Ret Tryz.prog .shared 105 [.agg (eR x),.agg (eR y)] (.agg (eR (ofQ (x.val * y.val)))) := by
 have hbx := ct x (by omega)
 have hby := ct y (by omega)
 have hdx := dK hxd
 have hdy := dK hyd
 have l1 := co x.n y.n
 have l3 := co (dn x) (dn y)
 have m1 := d5 x.n y.n (by omega) (by omega)
 have m3 := d5 (dn x) (dn y) (by omega) (by omega)
 have m5 := cu (bL (x.n.val * y.n.val)) (bL ((dn x).val * (dn y).val)) (by omega) (by omega) (q8 (Int.mul_ne_zero (iy x) (iy y)))
 rw [bS,bS,← sB,← RR.val_dn,← RR.val_dn] at m5
 generalize bL (x.n.val * y.n.val) = W1 at *
 generalize bL ((dn x).val * (dn y).val) = W3 at *
 generalize dn x = A at *
 generalize dn y = B at *
 generalize ofQ (x.val * y.val) = X at *
 refine Ret.of_pwp layOk mixed Go.Proofs.Tryz.func105 rfl (by decide) rfl rfl ?_
 repeat refine aa rfl ?_
 refine ah 11 [5,6,7,8,9,10,11,12,13,14,15] (by decide +kernel) ?_
 repeat refine aa rfl ?_
 refine ap rfl rfl rfl m1 rfl rfl ?_
 repeat refine aa rfl ?_
 refine ap rfl rfl rfl hbx rfl rfl ?_
 repeat refine aa rfl ?_
 refine ap rfl rfl rfl hby rfl rfl ?_
 repeat refine aa rfl ?_
 refine ap rfl rfl rfl m3 rfl rfl ?_
 repeat refine aa rfl ?_
 refine ap rfl rfl rfl m5 rfl rfl ?_
 repeat refine aa rfl ?_
 exact aK rfl rfl rfl
theorem eQ (x y : RR) {p q : Rat} {n m : Nat} [hx : Vq x p n] [hy : Vq y q m] (hn : n ≤ 20000000) (hm : m ≤ 20000000) : Ret Tryz.prog .shared 105 [.agg (eR x),.agg (eR y)] (.agg (eR (ofQ (p * q)))) := by
 have h1 := hx.sz
 have h2 := hy.sz
 have := wn x y (by omega) (by omega) (by omega) (by omega)
 rwa [hx.val,hy.val] at this
theorem tS (x y : RR) (hxn : x.n.l.length ≤ 20000000) (hxd : x.d.l.length ≤ 20000000) (hyn : y.n.l.length ≤ 20000000) (hyd : y.d.l.length ≤ 20000000) (h0 : y.val ≠ 0) : Ret Tryz.prog .shared 175 [.agg (eR x),.agg (eR y)] (.agg (eR (ofQ (x.val / y.val)))) := by
 have hbx := ct x (by omega)
 have hby := ct y (by omega)
 have hdx := dK hxd
 have hdy := dK hyd
 have hy0 : y.n.val ≠ 0 := by rw [Ne,RI.val_zero,← RR.zero_iff];exact h0
 have l1 := co x.n (dn y)
 have l3 := co (dn x) y.n
 have m1 := d5 x.n (dn y) (by omega) (by omega)
 have m3 := d5 (dn x) y.n (by omega) (by omega)
 have m5 := cu (bL (x.n.val * (dn y).val)) (bL ((dn x).val * y.n.val)) (by omega) (by omega) (q8 (Int.mul_ne_zero (iy x) hy0))
 rw [bS,bS,← sy,← RR.val_dn,← RR.val_dn] at m5
 generalize bL (x.n.val * (dn y).val) = W1 at *
 generalize bL ((dn x).val * y.n.val) = W3 at *
 generalize dn x = A at *
 generalize dn y = B at *
 generalize ofQ (x.val / y.val) = X at *
 refine Ret.of_pwp layOk mixed Go.Proofs.Tryz.func175 rfl (by decide) rfl rfl ?_
 repeat refine aa rfl ?_
 refine ah 11 [5,6,7,8,9,10,11,12,13,14,15] (by decide +kernel) ?_
 repeat refine aa rfl ?_
 refine ap rfl rfl rfl hby rfl rfl ?_
 repeat refine aa rfl ?_
 refine ap rfl rfl rfl m1 rfl rfl ?_
 repeat refine aa rfl ?_
 refine ap rfl rfl rfl hbx rfl rfl ?_
 repeat refine aa rfl ?_
 refine ap rfl rfl rfl m3 rfl rfl ?_
 repeat refine aa rfl ?_
 refine ap rfl rfl rfl m5 rfl rfl ?_
 repeat refine aa rfl ?_
 exact aK rfl rfl rfl
theorem Bu (x y : RR) {p q : Rat} {n m : Nat} [hx : Vq x p n] [hy : Vq y q m] (hn : n ≤ 20000000) (hm : m ≤ 20000000) (h0 : q ≠ 0) : Ret Tryz.prog .shared 175 [.agg (eR x),.agg (eR y)] (.agg (eR (ofQ (p / q)))) := by
 have h1 := hx.sz
 have h2 := hy.sz
 have := tS x y (by omega) (by omega) (by omega) (by omega) (by rw [hy.val];exact h0)
 rwa [hx.val,hy.val] at this
theorem l7 (x : RR) (hn : x.n.l.length ≤ 20000000) (hd : x.d.l.length ≤ 20000000) : Ret Tryz.prog .shared 135 [.agg (eR x)] (I (sgn x.val)) := by
 have hb := ct x (by omega)
 have h1 := jq x.n (by omega)
 have h2 := jq (dn x) (by have := dK hd;omega)
 rw [y3]
 have hw : IntKind.i64.wrap (mt x.n.val * mt (dn x).val) = mt x.n.val * mt (dn x).val := by
  refine wrap_i64 ?_ ?_ <;> (unfold mt;split <;> split <;> (try split) <;> (try split) <;> omega)
 generalize mt x.n.val = s1 at *
 generalize mt (dn x).val = s2 at *
 generalize dn x = D at *
 refine Ret.of_pwp layOk mixed Go.Proofs.Tryz.func135 rfl (by decide) rfl rfl ?_
 repeat refine aa rfl ?_
 refine ah 8 [3,4,5,6,7,8,9,2] (by decide +kernel) ?_
 repeat refine aa rfl ?_
 refine aY rfl rfl rfl h1 rfl rfl rfl ?_
 repeat refine aa rfl ?_
 refine ap rfl rfl rfl hb rfl rfl ?_
 repeat refine aa rfl ?_
 refine aY rfl rfl rfl h2 rfl rfl rfl ?_
 repeat refine aa rfl ?_
 rw [hw]
 exact bu rfl rfl rfl
theorem z6 (x : RR) {p : Rat} {n : Nat} [hx : Vq x p n] (hn : n ≤ 20000000) : Ret Tryz.prog .shared 135 [.agg (eR x)] (I (sgn p)) := by
 have h1 := hx.sz
 have := l7 x (by omega) (by omega)
 rwa [hx.val] at this
theorem r8 (x : RR) {p : Rat} {n : Nat} [hx : Vq x p n] (hn : n ≤ 20000000) : Ret Tryz.prog .shared 158 [.agg (eR x)] (.bool (decide (p = 0))) := by
 have h1 := hx.sz
 have := iD x (by omega)
 rwa [hx.val] at this
theorem nV (x y : RR) {p q : Rat} {n m : Nat} [hx : Vq x p n] [hy : Vq y q m] (hn : n ≤ 8000000) (hm : m ≤ 8000000) : Ret Tryz.prog .shared 65 [.agg (eR x),.agg (eR y)] (I (sgn (p - q))) := by
 have h1 := hx.sz
 have h2 := hy.sz
 have hs := jX x y (by omega) (by omega)
 have hh : hq (p - q) (n + 1 + (m + 1) + 1) := (HQ.sub (h1 := hx.hq) (h2 := hy.hq)).ok
 have hl := eO hh
 have hg := l7 (ofQ (p - q)) (by omega) (by omega)
 rw [ofQ_val] at hg
 generalize ofQ (p - q) = X at *
 generalize sgn (p - q) = g at *
 refine Ret.of_pwp layOk mixed Go.Proofs.Tryz.func65 rfl (by decide) rfl rfl ?_
 repeat refine aa rfl ?_
 refine ap rfl rfl rfl hs rfl rfl ?_
 repeat refine aa rfl ?_
 refine aY rfl rfl rfl hg rfl rfl rfl ?_
 repeat refine aa rfl ?_
 exact bu rfl rfl rfl
theorem wM (x y : RR) {p q : Rat} {n m : Nat} [hx : Vq x p n] [hy : Vq y q m] (hn : n ≤ 20000000) (hm : m ≤ 20000000) : Ret Tryz.prog .shared 132 [.agg (eR x),.agg (eR y)] (if q = 0 then .tup [.agg (eR RR.zero),I 9] else .tup [.agg (eR (ofQ (p / q))),I 0]) := by
 have hz := r8 y hm
 by_cases h0 : q = 0
 ·rw [if_pos h0]
  rw [decide_eq_true h0] at hz
  refine Ret.of_pwp layOk mixed Go.Proofs.Tryz.func132 rfl (by decide) rfl rfl ?_
  repeat refine aa rfl ?_
  refine aY rfl rfl rfl hz rfl rfl rfl ?_
  ((repeat ((fail_if_success (with_reducible refine iO ?_));refine cF rfl ?_));refine aB (Ghost.nilcell (k := 1007) (k0 := 4) (i := 0) (j := 1) 180 1 0 rfl rfl rfl rfl (row := [.bool false,.nil,.bool false,.nil]) rfl rfl rfl) ?_;refine aB (Ghost.nilcell (k := 1021) (k0 := 4) (i := 0) (j := 3) 180 1 0 rfl rfl rfl rfl (row := [.bool false,_,.bool false,.nil]) rfl rfl rfl) ?_)
  repeat refine aa rfl ?_
  exact aK rfl rfl rfl
 ·rw [if_neg h0]
  rw [decide_eq_false h0] at hz
  have ho := Bu x y hn hm h0
  generalize ofQ (p / q) = X at *
  refine Ret.of_pwp layOk mixed Go.Proofs.Tryz.func132 rfl (by decide) rfl rfl ?_
  repeat refine aa rfl ?_
  refine aY rfl rfl rfl hz rfl rfl rfl ?_
  repeat refine aa rfl ?_
  refine ap rfl rfl rfl ho rfl rfl ?_
  repeat refine aa rfl ?_
  exact aK rfl rfl rfl
theorem lL {z : Int} (h : z.natAbs < 18446744073709551616) : (bL z).l.length ≤ 4 := by
 rw [m0]
 refine bF ?_
 have : (65536 : Nat) ^ 4 = 18446744073709551616 := by decide
 omega
theorem kj (z : Int) : IntKind.u64.wrap z = z % 18446744073709551616 := by
 have e : (2 : Int) ^ 64 = 18446744073709551616 := by decide
 simp only [IntKind.wrap,IntKind.bits,IntKind.signed,Bool.false_and,Bool.false_eq_true,if_false,e]
theorem qC {z : Int} (h0 : -9223372036854775808 ≤ z) (h1 : z < 0) : IntKind.u64.wrap (0 - (IntKind.u64.wrap z)) = ((z.natAbs : Nat) : Int) := by
 rw [kj,kj]
 omega
set_option maxRecDepth 20000 in
theorem wy (z : Int) (h0 : -9223372036854775808 ≤ z) (h1 : z ≤ 9223372036854775807) : Ret Tryz.prog .shared 153 [I z] (.agg (eI (bL z))) := by
 have hn := j8 z.natAbs (by omega)
 have hl := lL (z := z) (by omega)
 rw [m0] at hl
 have hs := cQ (decide (z < 0)) (ak z.natAbs) (by omega)
 rw [aC] at hs
 have e : c6 (decide (z < 0)) z.natAbs = z := by
  by_cases h : z < 0
  ·rw [decide_eq_true h,c6,if_pos rfl];omega
  ·rw [decide_eq_false h,c6,if_neg (by decide)];omega
 rw [e] at hs
 generalize bL z = X at *
 by_cases hz : z < 0
 ·have hw := qC h0 hz
  rw [decide_eq_true hz] at hs
  generalize ak z.natAbs = A at *
  refine Ret.of_pwp layOk mixed Go.Proofs.Tryz.func153 rfl (by decide) rfl rfl ?_
  repeat refine aa rfl ?_
  refine ab rfl ?_ ?_<;>intro h
  ·clear h
   repeat refine aa rfl ?_
   rw [hw]
   refine ap rfl rfl rfl hn rfl rfl ?_
   repeat refine aa rfl ?_
   refine ap rfl rfl rfl hs rfl rfl ?_
   repeat refine aa rfl ?_
   exact aK rfl rfl rfl
  ·exact absurd hz (of_decide_eq_false h)
 ·have hw : IntKind.u64.wrap z = ((z.natAbs : Nat) : Int) := by
   rw [wrap_u64 (by omega) (by omega)];omega
  rw [decide_eq_false hz] at hs
  generalize ak z.natAbs = A at *
  refine Ret.of_pwp layOk mixed Go.Proofs.Tryz.func153 rfl (by decide) rfl rfl ?_
  repeat refine aa rfl ?_
  refine ab rfl ?_ ?_<;>intro h
  ·exact absurd (of_decide_eq_true h) hz
  ·clear h
   repeat refine aa rfl ?_
   rw [hw]
   refine ap rfl rfl rfl hn rfl rfl ?_
   repeat refine aa rfl ?_
   refine ap rfl rfl rfl hs rfl rfl ?_
   repeat refine aa rfl ?_
   exact aK rfl rfl rfl
theorem nG (a : RI) (ha : a.l.length ≤ 90000000) : Ret Tryz.prog .shared 152 [.agg (eI a)] (.agg (eR (ofQ (a.val : Rat)))) := by
 have hf := cu a ⟨false,[1]⟩ ha (by decide) (by decide)
 rw [show (RI.mk false [1]).val = 1 by rfl] at hf
 rw [show ((a.val : Rat) / ((1 : Int) : Rat)) = (a.val : Rat) by grind] at hf
 generalize ofQ (a.val : Rat) = X at *
 refine Ret.of_pwp layOk mixed Go.Proofs.Tryz.func152 rfl (by decide) rfl rfl ?_
 repeat refine aa rfl ?_
 refine bp rfl rfl (dg rfl rfl rfl rfl rfl rfl rfl rfl rfl rfl (by repeat' constructor) rfl) ?_
 repeat refine aa rfl ?_
 refine ap rfl rfl rfl hf rfl rfl ?_
 repeat refine aa rfl ?_
 exact aK rfl rfl rfl
theorem dl (z : Int) (h0 : -9223372036854775808 ≤ z) (h1 : z ≤ 9223372036854775807) : Ret Tryz.prog .shared 161 [I z] (.agg (eR (ofQ (z : Rat)))) := by
 have ho := wy z h0 h1
 have hw := nG (bL z) (by have := lL (z := z) (by omega);omega)
 rw [bS] at hw
 generalize ofQ (z : Rat) = X at *
 generalize bL z = Z at *
 refine Ret.of_pwp layOk mixed Go.Proofs.Tryz.func161 rfl (by decide) rfl rfl ?_
 repeat refine aa rfl ?_
 refine ap rfl rfl rfl ho rfl rfl ?_
 repeat refine aa rfl ?_
 refine ap rfl rfl rfl hw rfl rfl ?_
 repeat refine aa rfl ?_
 exact aK rfl rfl rfl
def c9 (x : Rat) : Rat := if 0 < x then x else 0
def eP (x y : Rat) : Rat := if y < x then y else x
def aQ (M : Nat → Rat) : Nat → Rat
 |0 => 0
 |k + 1 => M k
def cB (S M : Nat → Rat) (y : Rat) (k : Nat) : Rat := if y - S k < 0 then 0 else (M k - aQ M k) * (y - S k)
def oJ (S : Nat → Rat) (n : Nat) (y : Rat) (k : Nat) : Rat := if k + 1 < n then eP y (S (k + 1)) else y
def iL (S M : Nat → Rat) (n : Nat) (y : Rat) (k : Nat) : Rat := M k * c9 (oJ S n y k - S k)
theorem jM {S M : Nat → Rat} {y : Rat} (k : Nat) : cB S M y k = (M k - aQ M k) * c9 (y - S k) := by
 rw [cB,c9];grind
theorem ng (S M : Nat → Rat) (y : Rat) : ∀ (k n : Nat),(∀ i,i < k → S i < S (i + 1)) → k < n → ac (cB S M y) (k + 1) = ac (iL S M n y) k + M k * c9 (y - S k)
 |0,n,_,_ => by
  rw [ac,ac,ac,jM,aQ];grind
 |k + 1,n,h,hk => by
  have ih := ng S M y k n (fun i hi => h i (by omega)) (by omega)
  have hs := h k (by omega)
  rw [ac,ih,jM,aQ,ac,iL,oJ,if_pos hk]
  have key : c9 (y - S k) = c9 (eP y (S (k + 1)) - S k) + c9 (y - S (k + 1)) := by
   simp only [c9,eP];grind
  rw [key];grind
theorem fH {S M : Nat → Rat} {y : Rat} {n : Nat} (h : ∀ i,i + 1 < n → S i < S (i + 1)) : ac (cB S M y) n = ac (iL S M n y) n := by
 cases n with
 |zero => rfl
 |succ k =>
  rw [ng S M y k (k + 1) (fun i hi => h i (by omega)) (by omega)]
  rw [ac,iL,oJ,if_neg (by omega)]
theorem kK {f g : Nat → Rat} : ∀ {n : Nat},(∀ k,k < n → f k ≤ g k) → ac f n ≤ ac g n
 |0,_ => Rat.le_refl
 |n + 1,h => by
  have h1 := kK (n := n) fun k hk => h k (by omega)
  have h2 := h n (by omega)
  rw [ac,ac];grind
theorem mc {f g : Nat → Rat} : ∀ {n : Nat},ac (fun k => f k + g k) n = ac f n + ac g n
 |0 => by rw [ac,ac,ac];grind
 |n + 1 => by rw [ac,ac,ac,mc];grind
theorem gC {f : Nat → Rat} {c : Rat} : ∀ {n : Nat},ac (fun k => f k * c) n = ac f n * c
 |0 => by rw [ac,ac];grind
 |n + 1 => by rw [ac,ac,gC];grind
theorem nC {f : Nat → Rat} : ∀ {n : Nat},(∀ k,k < n → f k = 0) → ac f n = 0
 |0,_ => rfl
 |n + 1,h => by rw [ac,nC fun k hk => h k (by omega),h n (by omega)];grind
theorem fp {f : Nat → Rat} : ∀ {n i : Nat},(∀ k,k < n → 0 ≤ f k) → i < n → f i ≤ ac f n
 |0,_,_,hi => by omega
 |n + 1,i,h,hi => by
  have h0 := c7 (f := f) (n := n) fun k hk => h k (by omega)
  rw [ac]
  by_cases he : i = n
  ·subst he;grind
  ·have := fp (f := f) (n := n) (i := i) (fun k hk => h k (by omega)) (by omega)
   have := h n (by omega)
   grind
theorem xF {f : Nat → Rat} {n : Nat} (h : 0 < ac f n) (h0 : ∀ k,k < n → 0 ≤ f k) : ∃ k,k < n ∧ 0 < f k := by
 by_cases hx : ∃ k,k < n ∧ 0 < f k
 ·exact hx
 ·have : ac f n = 0 := nC fun k hk => by
   have h1 := h0 k hk
   have h2 : ¬ 0 < f k := fun h => hx ⟨k,hk,h⟩
   grind
  rw [this] at h
  exact absurd h (by grind)
structure Crv (n : Nat) (S M : Nat → Rat) : Prop where
 asc : ∀ k,k + 1 < n → S k < S (k + 1)
 nn : ∀ k,k < n → 0 ≤ M k
def cz (n : Nat) (S M : Nat → Rat) (y : Rat) : Rat := ac (cB S M y) n
def gi (S M : Nat → Rat) (p : Nat) : Rat := ac (fun k => (M k - aQ M k) * S k) p
def InL (n : Nat) (S : Nat → Rat) (p : Nat) (y : Rat) : Prop := p ≤ n ∧ (∀ k,p = k + 1 → S k < y) ∧ (p < n → y ≤ S p)
def uO (n : Nat) (S : Nat → Rat) (p : Nat) (y : Rat) : Prop := p ≤ n ∧ (∀ k,p = k + 1 → S k ≤ y) ∧ (p < n → y ≤ S p)
section
variable {n : Nat} {S M : Nat → Rat} {y : Rat} {p : Nat}
theorem InL.c (h : InL n S p y) : uO n S p y := ⟨h.1,fun k hk => by have := h.2.1 k hk;grind,h.2.2⟩
theorem Crv.mono_st (h : Crv n S M) : ∀ {j i : Nat},i ≤ j → j < n → S i ≤ S j
 |0,i,h1,_ => by
  have : i = 0 := by omega
  subst this;exact Rat.le_refl
 |j + 1,i,h1,h2 => by
  by_cases he : i = j + 1
  ·subst he;exact Rat.le_refl
  ·have := h.mono_st (j := j) (i := i) (by omega) (by omega)
   have := h.asc j (by omega)
   grind
theorem InL.some (h : Crv n S M) (y : Rat) : ∀ (m : Nat),m ≤ n → ∃ p,p ≤ m ∧ (∀ k,p = k + 1 → S k < y) ∧ (p < m → y ≤ S p)
 |0,_ => ⟨0,Nat.le_refl _,fun k hk => by omega,fun hk => by omega⟩
 |m + 1,hm => by
  by_cases hy : S m < y
  ·exact ⟨m + 1,Nat.le_refl _,fun k hk => by have : k = m := by omega
                                             subst this;exact hy,fun hk => by omega⟩
  ·obtain ⟨p,h1,h2,h3⟩ := InL.some h y m (by omega)
   refine ⟨p,by omega,h2,fun _ => ?_⟩
   by_cases hp : p < m
   ·exact h3 hp
   ·have : p = m := by omega
    subst this;grind
theorem InL.get (h : Crv n S M) (y : Rat) : ∃ p,InL n S p y := InL.some h y n (Nat.le_refl _)
theorem m7 : ∀ (p : Nat),ac (fun k => (M k - aQ M k) * (y - S k)) p = aQ M p * y - gi S M p
 |0 => by rw [ac,gi,ac,aQ];grind
 |p + 1 => by rw [ac,m7 p,gi,gi,ac,aQ];grind
theorem dr (h : Crv n S M) (hp : uO n S p y) : cz n S M y = aQ M p * y - gi S M p := by
 obtain ⟨h1,h2,h3⟩ := hp
 rw [← m7,cz]
 have key : ∀ m,p + m ≤ n → ac (cB S M y) (p + m) = ac (fun k => (M k - aQ M k) * (y - S k)) p := by
  intro m
  induction m with
  |zero =>
   intro _
   refine aT fun k hk => ?_
   have : S k ≤ y := by
    cases p with
    |zero => omega
    |succ p =>
     have := h2 p rfl
     have := h.mono_st (i := k) (j := p) (by omega) (by omega)
     grind
   rw [cB,if_neg (by grind)]
  |succ m ih =>
   intro hm
   rw [Nat.add_succ,ac,ih (by omega),cB]
   have h4 := h3 (by omega)
   have h5 := h.mono_st (i := p) (j := p + m) (by omega) (by omega)
   split
   ·grind
   ·have : y - S (p + m) = 0 := by grind
    rw [this];grind
 have := key (n - p) (by omega)
 rwa [show p + (n - p) = n by omega] at this
theorem nQ (h : Crv n S M) (hp : p ≤ n) : 0 ≤ aQ M p := by
 cases p with
 |zero => rw [aQ];exact Rat.le_refl
 |succ p => exact h.nn p (by omega)
theorem yN (x : Rat) : 0 ≤ c9 x := by rw [c9];grind
theorem tT {x z : Rat} (h : x ≤ z) : c9 x ≤ c9 z := by simp only [c9];grind
theorem AS (h : Crv n S M) : 0 ≤ cz n S M y := by
 rw [cz,fH h.asc]
 refine c7 fun k hk => ?_
 rw [iL]
 exact Rat.mul_nonneg (h.nn k hk) (yN _)
theorem fq (h : Crv n S M) {x z : Rat} (hx : x ≤ z) : cz n S M x ≤ cz n S M z := by
 rw [cz,cz,fH h.asc,fH h.asc]
 refine kK fun k hk => ?_
 rw [iL,iL]
 refine Rat.mul_le_mul_of_nonneg_left (tT ?_) (h.nn k hk)
 have : oJ S n x k ≤ oJ S n z k := by
  simp only [oJ,eP];grind
 grind
def k_ (n : Nat) (S M : Nat → Rat) : Rat := gi S M n * (-1)
theorem mr (h : Crv n S M) (hl : uO n S n y) (h0 : aQ M n = 0) : cz n S M y = k_ n S M := by
 rw [dr h hl,h0,k_];grind
theorem uE (h : Crv n S M) (hl : uO n S 0 y) : cz n S M y = 0 := by
 rw [dr h hl,aQ,gi,ac];grind
end
structure Bd where
 N : Nat
 X : Nat → Rat
 C : Nat → Rat
 n : Nat → Nat
 S : Nat → Nat → Rat
 M : Nat → Nat → Rat
 w : Rat
 A : Rat
structure Bd.Ok (b : Bd) : Prop where
 crv : ∀ i,i < b.N → Crv (b.n i) (b.S i) (b.M i)
 pos : 0 < b.w
namespace Bd
variable {b : Bd}
def y (b : Bd) (z t : Rat) (i : Nat) : Rat := b.C i + (z + t * b.X i)
def f (b : Bd) (z t : Rat) (i : Nat) : Rat := cz (b.n i) (b.S i) (b.M i) (b.y z t i)
def F (b : Bd) (z t : Rat) : Rat := ac (b.f z t) b.N
def G (b : Bd) (z t : Rat) : Rat := ac (fun i => b.f z t i * b.X i) b.N
def e (b : Bd) (z t : Rat) : Rat := b.G z t - b.w * b.A
def Least (b : Bd) (z t : Rat) : Prop := b.F z t = b.w ∧ ∀ z',z' < z → b.F z' t < b.w
def Bal (b : Bd) (z t : Rat) : Prop := b.F z t = b.w ∧ b.G z t = b.w * b.A
theorem Aw (h : b.Ok) {z z' t : Rat} (hz : z ≤ z') {i : Nat} (hi : i < b.N) : b.f z t i ≤ b.f z' t i := fq (h.crv i hi) (by rw [y,y];grind)
theorem Ac (h : b.Ok) {z z' t : Rat} (hz : z ≤ z') : b.F z t ≤ b.F z' t := kK fun _ hi => Aw h hz hi
theorem Ax (h : b.Ok) {z t : Rat} {i : Nat} (hi : i < b.N) : 0 ≤ b.f z t i := AS (h.crv i hi)
theorem xR (h : b.Ok) (z t z' t' : Rat) {i : Nat} (hi : i < b.N) : 0 ≤ (b.f z t i - b.f z' t' i) * (b.y z t i - b.y z' t' i) := by
 have hc := h.crv i hi
 by_cases hy : b.y z t i ≤ b.y z' t' i
 ·have h1 := fq hc hy
  have : (b.f z t i - b.f z' t' i) * (b.y z t i - b.y z' t' i) = (b.f z' t' i - b.f z t i) * (b.y z' t' i - b.y z t i) := by grind
  rw [this]
  exact Rat.mul_nonneg (by rw [f,f];grind) (by grind)
 ·have h1 := fq hc (x := b.y z' t' i) (z := b.y z t i) (by grind)
  exact Rat.mul_nonneg (by rw [f,f];grind) (by grind)
theorem zj (b : Bd) (z t z' t' : Rat) : ac (fun i => (b.f z t i - b.f z' t' i) * (b.y z t i - b.y z' t' i)) b.N = (b.F z t - b.F z' t') * (z - z') + (b.G z t - b.G z' t') * (t - t') := by
 have key : ∀ n,ac (fun i => (b.f z t i - b.f z' t' i) * (b.y z t i - b.y z' t' i)) n = (ac (b.f z t) n - ac (b.f z' t') n) * (z - z') + (ac (fun i => b.f z t i * b.X i) n - ac (fun i => b.f z' t' i * b.X i) n) * (t - t') := by
  intro n
  induction n with
  |zero => simp only [ac];grind
  |succ n ih =>
   simp only [ac]
   rw [ih,y,y];grind
 exact key b.N
theorem kg (h : b.Ok) {z t z' t' : Rat} (hF : b.F z t = b.F z' t') (hG : b.G z t = b.G z' t' ∨ t = t') {i : Nat} (hi : i < b.N) : b.f z t i = b.f z' t' i := by
 have h0 : ac (fun i => (b.f z t i - b.f z' t' i) * (b.y z t i - b.y z' t' i)) b.N = 0 := by
  rw [zj,hF]
  rcases hG with hG | ht
  ·rw [hG];grind
  ·rw [ht];grind
 have h1 := fp (f := fun i => (b.f z t i - b.f z' t' i) * (b.y z t i - b.y z' t' i)) (n := b.N) (i := i) (fun k hk => xR h z t z' t' hk) hi
 rw [h0] at h1
 have h2 := xR h z t z' t' hi
 have h3 : (b.f z t i - b.f z' t' i) * (b.y z t i - b.y z' t' i) = 0 := by grind
 rcases Rat.mul_eq_zero.1 h3 with h4 | h4
 ·grind
 ·rw [f,f,show b.y z t i = b.y z' t' i by grind]
theorem xe (h : b.Ok) {z t z' : Rat} (hF : b.F z t = b.F z' t) : b.G z t = b.G z' t := aT fun i hi => by rw [kg h hF (.inr rfl) hi]
def Inl (b : Bd) (p : Nat → Nat) (z t : Rat) : Prop := ∀ i,i < b.N → InL (b.n i) (b.S i) (p i) (b.y z t i)
def Inc (b : Bd) (p : Nat → Nat) (z t : Rat) : Prop := ∀ i,i < b.N → uO (b.n i) (b.S i) (p i) (b.y z t i)
def k (b : Bd) (p : Nat → Nat) (i : Nat) : Rat := aQ (b.M i) (p i)
def o (b : Bd) (p : Nat → Nat) (i : Nat) : Rat := gi (b.S i) (b.M i) (p i)
def Kh (b : Bd) (p : Nat → Nat) : Rat := ac (b.k p) b.N
def Kc (b : Bd) (p : Nat → Nat) : Rat := ac (fun i => b.k p i * b.X i) b.N
def Kp (b : Bd) (p : Nat → Nat) : Rat := ac (fun i => b.k p i * b.X i * b.X i) b.N
def Fo (b : Bd) (p : Nat → Nat) : Rat := ac (fun i => b.k p i * b.C i - b.o p i) b.N
def Go (b : Bd) (p : Nat → Nat) : Rat := ac (fun i => (b.k p i * b.C i - b.o p i) * b.X i) b.N
theorem Inl.c {p : Nat → Nat} {z t : Rat} (h : b.Inl p z t) : b.Inc p z t := fun i hi => (h i hi).c
theorem r7 (h : b.Ok) (z t : Rat) : ∃ p,b.Inl p z t := by
 have := fun i => Classical.em (i < b.N)
 refine ⟨fun i => if hi : i < b.N then Classical.choose (InL.get (h.crv i hi) (b.y z t i)) else 0,fun i hi => ?_⟩
 simp only [dif_pos hi]
 exact Classical.choose_spec (InL.get (h.crv i hi) (b.y z t i))
theorem yt (h : b.Ok) {p : Nat → Nat} {z t : Rat} (hp : b.Inc p z t) {i : Nat} (hi : i < b.N) : b.f z t i = b.k p i * b.y z t i - b.o p i := dr (h.crv i hi) (hp i hi)
theorem F_at (h : b.Ok) {p : Nat → Nat} {z t : Rat} (hp : b.Inc p z t) : b.F z t = b.Kh p * z + b.Kc p * t + b.Fo p := by
 rw [F,aT (g := fun i => b.k p i * b.y z t i - b.o p i) fun i hi => yt h hp hi]
 have key : ∀ n,ac (fun i => b.k p i * b.y z t i - b.o p i) n = ac (b.k p) n * z + ac (fun i => b.k p i * b.X i) n * t + ac (fun i => b.k p i * b.C i - b.o p i) n := by
  intro n
  induction n with
  |zero => simp only [ac];grind
  |succ n ih => simp only [ac];rw [ih,y];grind
 exact key b.N
theorem G_at (h : b.Ok) {p : Nat → Nat} {z t : Rat} (hp : b.Inc p z t) : b.G z t = b.Kc p * z + b.Kp p * t + b.Go p := by
 rw [G,aT (g := fun i => (b.k p i * b.y z t i - b.o p i) * b.X i) fun i hi => by rw [yt h hp hi]]
 have key : ∀ n,ac (fun i => (b.k p i * b.y z t i - b.o p i) * b.X i) n = ac (fun i => b.k p i * b.X i) n * z + ac (fun i => b.k p i * b.X i * b.X i) n * t + ac (fun i => (b.k p i * b.C i - b.o p i) * b.X i) n := by
  intro n
  induction n with
  |zero => simp only [ac];grind
  |succ n ih => simp only [ac];rw [ih,y];grind
 exact key b.N
theorem AB (h : b.Ok) {p : Nat → Nat} {z t : Rat} (hp : b.Inc p z t) {i : Nat} (hi : i < b.N) : 0 ≤ b.k p i := nQ (h.crv i hi) (hp i hi).1
theorem tD {p : Nat → Nat} {z t : Rat} (hp : b.Inl p z t) : ∃ d,0 < d ∧ ∀ d',0 ≤ d' → d' ≤ d → b.Inl p (z - d') t := by
 have key : ∀ m,m ≤ b.N → ∃ d : Rat,0 < d ∧ ∀ d',0 ≤ d' → d' ≤ d → ∀ i,i < m → InL (b.n i) (b.S i) (p i) (b.y (z - d') t i) := by
  intro m
  induction m with
  |zero => exact fun _ => ⟨1,by decide,fun _ _ _ i hi => by omega⟩
  |succ m ih =>
   intro hm
   obtain ⟨d,h1,h2⟩ := ih (by omega)
   obtain ⟨g1,g2,g3⟩ := hp m (by omega)
   obtain ⟨d2,h3,h4⟩ : ∃ d2 : Rat,0 < d2 ∧ ∀ k,p m = k + 1 → b.S m k < b.y z t m - d2 := by
    cases hpm : p m with
    |zero => exact ⟨1,by decide,fun k hk => by omega⟩
    |succ k =>
     have := g2 k hpm
     refine ⟨(b.y z t m - b.S m k) / 2,by grind,fun k' hk' => ?_⟩
     obtain rfl : k = k' := by omega
     grind
   refine ⟨eP d d2,by rw [eP];grind,fun d' h5 h6 i hi => ?_⟩
   have h7 : d' ≤ d ∧ d' ≤ d2 := by rw [eP] at h6;grind
   by_cases he : i < m
   ·exact h2 d' h5 h7.1 i he
   ·obtain rfl : i = m := by omega
    have hy : b.y (z - d') t i = b.y z t i - d' := by rw [y,y];grind
    refine ⟨g1,fun k hk => ?_,fun hk => ?_⟩
    ·have := h4 k hk;rw [hy];grind
    ·have := g3 hk;rw [hy];grind
 obtain ⟨d,h1,h2⟩ := key b.N (Nat.le_refl _)
 exact ⟨d,h1,fun d' h3 h4 i hi => h2 d' h3 h4 i hi⟩
theorem Least.K (h : b.Ok) {p : Nat → Nat} {z t : Rat} (hl : b.Least z t) (hp : b.Inl p z t) : 0 < b.Kh p := by
 obtain ⟨d,h1,h2⟩ := tD hp
 have h3 := F_at h hp.c
 have h4 := F_at h (h2 d (by grind) Rat.le_refl).c
 have h5 := hl.2 (z - d) (by grind)
 rw [h4] at h5
 rw [hl.1] at h3
 have h6 : 0 < b.Kh p * d := by grind
 have h7 : 0 ≤ b.Kh p := c7 fun i hi => AB h hp.c hi
 by_cases h8 : b.Kh p = 0
 ·rw [h8] at h6;grind
 ·grind
theorem Least.uniq {z z' t : Rat} (h1 : b.Least z t) (h2 : b.Least z' t) : z = z' := by
 rcases Classical.em (z < z') with hc | hc
 ·have := h2.2 z hc;rw [h1.1] at this;grind
 ·rcases Classical.em (z' < z) with hd | hd
  ·have := h1.2 z' hd;rw [h2.1] at this;grind
  ·grind
def ln (b : Bd) (p : Nat → Nat) (t : Rat) : Rat := (b.w - b.Fo p - b.Kc p * t) / b.Kh p
theorem ln_at (h : b.Ok) {p : Nat → Nat} {z t : Rat} (hF : b.F z t = b.w) (hp : b.Inc p z t) (hK : 0 < b.Kh p) : z = b.ln p t := by
 have h1 := F_at h hp
 rw [hF] at h1
 have hne : b.Kh p ≠ 0 := by grind
 rw [ln];grind
theorem x7 (h : b.Ok) {p : Nat → Nat} {t : Rat} (hp : b.Inc p (b.ln p t) t) (hK : 0 < b.Kh p) : b.F (b.ln p t) t = b.w := by
 have hne : b.Kh p ≠ 0 := by grind
 rw [F_at h hp,ln];grind
def eln (b : Bd) (p : Nat → Nat) (t : Rat) : Rat := b.Kc p * b.ln p t + b.Kp p * t + b.Go p - b.w * b.A
theorem vF (h : b.Ok) {p : Nat → Nat} {t : Rat} (hp : b.Inc p (b.ln p t) t) : b.e (b.ln p t) t = b.eln p t := by rw [e,G_at h hp,eln]
end Bd
structure CR where
 S : List Int
 M : List RR
structure SR where
 x : Int
 c : RR
 k : CR
structure BR where
 w : Int
 a : RR
 l : List SR
def eN (z : Int) : List PV := [I z]
def eC (c : CR) : List PV := [.sl (c.S.map eN),.sl (c.M.map eR)]
def eS (s : SR) : List PV := I s.x :: (eR s.c ++ eC s.k)
def eB (b : BR) : List PV := I b.w :: (eR b.a ++ [.sl (b.l.map eS)])
def RR.sz (x : RR) (n : Nat) : Prop := x.n.l.length ≤ n ∧ x.d.l.length ≤ n
theorem RR.sz.v {x : RR} {n : Nat} (h : x.sz n) : Vq x x.val n := Vq.raw h.1 h.2
def i64 (z : Int) : Prop := -9223372036854775808 ≤ z ∧ z ≤ 9223372036854775807
structure CR.Lim (c : CR) : Prop where
 s : ∀ z ∈ c.S,i64 z
 m : ∀ x ∈ c.M,x.sz 12
 ls : c.S.length ≤ 1000000000
 lm : c.M.length ≤ 1000000000
theorem cg (p : Rat) : sgn p < 0 ↔ p < 0 := by unfold sgn;split <;> (try split) <;> simp_all <;> omega
theorem jS (p : Rat) : sgn p = 0 ↔ p = 0 := by
 unfold sgn
 split
 ·rename_i h;constructor
  ·intro h1;omega
  ·intro h1;subst h1;grind
 ·split <;> simp_all
theorem gx (p : Rat) : 0 < sgn p ↔ 0 < p := by
 unfold sgn
 split
 ·rename_i h;constructor
  ·intro h1;omega
  ·intro h1;grind
 ·rename_i h;split
  ·rename_i h1;subst h1;simp
  ·constructor
   ·intro _;grind
   ·intro _;omega
theorem AK (p : Rat) : 0 ≤ sgn p ↔ 0 ≤ p := by
 have h1 := cg p
 constructor
 ·intro h;have : ¬ p < 0 := fun h2 => by have := h1.2 h2;omega
  grind
 ·intro h;have : ¬ sgn p < 0 := fun h2 => by have := h1.1 h2;grind
  omega
theorem AL (p : Rat) : sgn p ≤ 0 ↔ p ≤ 0 := by
 have h1 := gx p
 constructor
 ·intro h;have : ¬ 0 < p := fun h2 => by have := h1.2 h2;omega
  grind
 ·intro h;have : ¬ 0 < sgn p := fun h2 => by have := h1.1 h2;grind
  omega
def dI (c : CR) (i : Nat) : Int :=
 if c.S.getD i 0 < -10000000 ∨ 10000000 < c.S.getD i 0 ∨ (c.M.getD i RR.zero).val < 0 then 2
 else if 0 < i ∧ c.S.getD i 0 ≤ c.S.getD (i - 1) 0 then 10 else 0
def da (c : CR) : Nat → Nat → Int
 |_,0 => 0
 |i,k + 1 => if dI c i = 0 then da c (i + 1) k else dI c i
def bV (c : CR) : Int := if 40 < c.S.length then 8 else if c.M.length ≠ c.S.length then 11 else da c 0 c.S.length
theorem bi {α : Type} {l : List α} {i : Nat} {d : α} (h : i < l.length) : l[i]? = some (l.getD i d) := by
 rw [List.getD_eq_getElem?_getD,List.getElem?_eq_getElem h];rfl
set_option maxRecDepth 20000 in
theorem c_ (c : CR) (hc : c.Lim) : Ret Tryz.prog .shared 78 [.agg (eC c)] (I (bV c)) := by
 obtain ⟨S,M⟩ := c
 obtain ⟨hs,hm,hls,hlm⟩ := hc
 simp only at hs hm hls hlm
 have hSl : (S.map eN).length = S.length := by simp
 have hMl : (M.map eR).length = M.length := by simp
 generalize hE : bV ⟨S,M⟩ = E
 simp only [bV] at hE
 show Ret Tryz.prog .shared 78 [.agg [.sl (S.map eN),.sl (M.map eR)]] (I E)
 refine Ret.of_pwp layOk mixed Go.Proofs.Tryz.func78 rfl (by decide) rfl rfl ?_
 repeat refine aa rfl ?_
 refine ab rfl ?_ ?_<;>intro h
 ·have h1 := of_decide_eq_true h
  rw [if_pos (by omega)] at hE
  subst hE
  repeat refine aa rfl ?_
  exact bu rfl rfl rfl
 have h40 : ¬ 40 < S.length := by have h1 := of_decide_eq_false h;omega
 rw [if_neg h40] at hE
 clear h
 repeat refine aa rfl ?_
 refine ab rfl ?_ ?_<;>intro h
 ·have h1 : M.length ≠ S.length := by simp at h;omega
  rw [if_pos h1] at hE
  subst hE
  repeat refine aa rfl ?_
  exact bu rfl rfl rfl
 have hSM : M.length = S.length := by simp at h;omega
 rw [if_neg (by omega)] at hE
 clear h
 repeat refine aa rfl ?_
 refine ao (fun i : Nat => i ≤ S.length ∧ da ⟨S,M⟩ i (S.length - i) = E) (fun i => [(17,.sl (S.map eN)),(18,I S.length),(19,I (i : Nat)),(1,.ptr 1 1 0 0)]) (fun _ => [(1,1,⟨120,2,[[.sl (S.map eN),.sl (M.map eR)]],2⟩)]) (fun i => S.length - i) 0 ⟨Nat.zero_le _,hE⟩ ⟨rfl,by rw [← hSl];rfl,rfl,rfl,rfl,trivial⟩ ?_
 intro i s ⟨hi,hF⟩
 repeat refine aa rfl ?_
 refine ab rfl ?_ ?_<;>intro h
 ·have hlt : i < S.length := by have := of_decide_eq_true h;omega
  clear h
  obtain ⟨k,hk⟩ : ∃ k,S.length - i = k + 1 := ⟨S.length - i - 1,by omega⟩
  rw [hk,da] at hF
  have hx := bi (d := 0) hlt
  have hmx := bi (l := M) (i := i) (d := RR.zero) (by omega)
  have hse : dI ⟨S,M⟩ i = dI ⟨S,M⟩ i := rfl
  conv at hse => rhs;rw [dI]
  simp only at hse
  generalize dI ⟨S,M⟩ i = se at *
  have hxb := hs _ (List.mem_of_getElem? hx)
  have hmv := (hm _ (List.mem_of_getElem? hmx)).v
  have hsg := z6 (M.getD i RR.zero) (hx := hmv) (by decide)
  have hsl := cg (M.getD i RR.zero).val
  generalize hx0 : S.getD i 0 = x at *
  generalize M.getD i RR.zero = m at *
  generalize sgn m.val = sg at *
  repeat refine aa rfl ?_
  refine bO rfl rfl rfl rfl rfl rfl rfl hx rfl ?_
  repeat refine aa rfl ?_
  refine fU rfl rfl rfl ?_ ?_<;>intro h
  ·have h1 := of_decide_eq_true h
   clear h
   have hS2 : se = 2 := by rw [hse,if_pos (.inl h1)]
   rw [hS2,if_neg (by decide)] at hF
   subst hF
   repeat refine aa rfl ?_
   exact bu rfl rfl rfl
  ·have h1 := of_decide_eq_false h
   clear h
   repeat refine aa rfl ?_
   refine fU rfl rfl rfl ?_ ?_<;>intro h
   ·have h2 := of_decide_eq_true h
    clear h
    have hS2 : se = 2 := by rw [hse,if_pos (.inr (.inl h2))]
    rw [hS2,if_neg (by decide)] at hF
    subst hF
    repeat refine aa rfl ?_
    exact bu rfl rfl rfl
   ·have h2 := of_decide_eq_false h
    clear h
    repeat refine aa rfl ?_
    refine bO rfl rfl rfl rfl rfl rfl rfl hmx rfl ?_
    repeat refine aa rfl ?_
    refine aY rfl rfl rfl hsg rfl rfl rfl ?_
    repeat refine aa rfl ?_
    refine ab rfl ?_ ?_<;>intro h
    ·have h3 := of_decide_eq_true h
     clear h
     have hS2 : se = 2 := by rw [hse,if_pos (.inr (.inr (hsl.1 h3)))]
     rw [hS2,if_neg (by decide)] at hF
     subst hF
     repeat refine aa rfl ?_
     exact bu rfl rfl rfl
    ·have h3 := of_decide_eq_false h
     clear h
     rw [if_neg (by rw [← hsl];omega)] at hse
     repeat refine aa rfl ?_
     refine fU rfl rfl rfl ?_ ?_<;>intro h
     ·have h4 := of_decide_eq_true h
      clear h
      obtain ⟨j,rfl⟩ : ∃ j,i = j + 1 := ⟨i - 1,by omega⟩
      have hw1 : IntKind.i64.wrap (((j + 1 : Nat) : Int) - 1) = ((j : Nat) : Int) := by rw [wrap_i64 (by omega) (by omega)];omega
      have hy := bi (l := S) (i := j) (d := 0) (by omega)
      rw [show j + 1 - 1 = j by omega] at hse
      generalize S.getD j 0 = y at *
      repeat refine aa rfl ?_
      rw [hw1]
      refine bO rfl rfl rfl rfl rfl rfl rfl hy rfl ?_
      repeat refine aa rfl ?_
      refine ab rfl ?_ ?_<;>intro h
      ·have h5 := of_decide_eq_true h
       clear h
       have hS2 : se = 10 := by rw [hse,if_pos ⟨by omega,h5⟩]
       rw [hS2,if_neg (by decide)] at hF
       subst hF
       repeat refine aa rfl ?_
       exact bu rfl rfl rfl
      ·have h5 := of_decide_eq_false h
       clear h
       have hS2 : se = 0 := by rw [hse,if_neg (fun h => h5 h.2)]
       rw [if_pos hS2] at hF
       have hw : IntKind.i64.wrap (((j + 1 : Nat) : Int) + 1) = ((j + 1 + 1 : Nat) : Int) := by rw [wrap_i64 (by omega) (by omega)];omega
       repeat refine aa rfl ?_
       exact ⟨j + 1 + 1,⟨by omega,by rw [show S.length - (j + 1 + 1) = k by omega];exact hF⟩,by omega,rfl,rfl,congrArg I hw,rfl,rfl,trivial⟩
     ·have h4 := of_decide_eq_false h
      clear h
      have hS2 : se = 0 := by rw [hse,if_neg (fun h => h4 (by omega))]
      rw [if_pos hS2] at hF
      have hw := jx i
      repeat refine aa rfl ?_
      exact ⟨i + 1,⟨by omega,by rw [show S.length - (i + 1) = k by omega];exact hF⟩,by omega,rfl,rfl,congrArg I hw,rfl,rfl,trivial⟩
 ·have hie : i = S.length := by have := of_decide_eq_false h;omega
  rw [hie,Nat.sub_self,da] at hF
  subst hF
  repeat refine aa rfl ?_
  exact bu rfl rfl rfl
end Go.Pv
namespace Go.Pv
open Go.RowKit
variable [Globs]
def mF : List (Tmp × PV) → (Nat → PV) → Nat → PV
 |[],f => f
 |(p,v) :: l,f => mF l fun r => bif Nat.beq r p then v else f r
theorem mG {E : Env} : ∀ (ps : List Tmp) (cs : List PV) (vs : List Value) (f : Nat → PV) (tmps : Array Value),ps.length = cs.length → cs.length = vs.length → (∀ p ∈ ps,p < tmps.size) → (∀ t,Rep E (f t) (tmps.getD t undef)) →
  (∀ (i : Nat) (c : PV) (v : Value),cs[i]? = some c → vs[i]? = some v → Rep E c v) →
  ((ps.zip vs).foldl (fun t q => t.setIfInBounds q.1 q.2) tmps).size = tmps.size ∧ ∀ t,Rep E (mF (ps.zip cs) f t) (((ps.zip vs).foldl (fun t q => t.setIfInBounds q.1 q.2) tmps).getD t undef)
 |[],[],[],f,tmps,_,_,_,hf,_ => ⟨rfl,hf⟩
 |p :: ps,c :: cs,v :: vs,f,tmps,h1,h2,hp,hf,hd => by
  have hp0 : p < tmps.size := hp p (.head _)
  have ih := mG ps cs vs (fun r => bif Nat.beq r p then c else f r) (tmps.setIfInBounds p v) (by simpa using h1) (by simpa using h2) (fun q hq => by simpa using hp q (.tail _ hq)) (fun t => by
   by_cases ht : t = p
   ·subst ht
    have e1 : (tmps.setIfInBounds t v).getD t undef = v := by simp [hp0]
    rw [e1]
    simpa using hd 0 c v rfl rfl
   ·have e1 : (tmps.setIfInBounds p v).getD t undef = tmps.getD t undef := by simp [Array.getElem?_setIfInBounds_ne (Ne.symm ht)]
    rw [e1,aR ht]
    exact hf t) (fun i c' v' e1 e2 => hd (i + 1) c' v' (by simpa using e1) (by simpa using e2))
  refine ⟨?_,fun t => ?_⟩
  ·rw [List.zip_cons_cons,List.foldl_cons,ih.1];simp
  ·rw [List.zip_cons_cons,List.zip_cons_cons,List.foldl_cons]
   exact ih.2 t
 |[],_ :: _,_,_,_,h,_,_,_,_ => by simp at h
 |[],[],_ :: _,_,_,_,h,_,_,_ => by simp at h
 |_ :: _,[],_,_,_,h,_,_,_,_ => by simp at h
 |_ :: _,_ :: _,[],_,_,_,h,_,_,_ => by simp at h
def bE (ps : Array Tmp) (asg body : Code) (st : LoopState) (pend : Option Code) (regs : Nat → PV) : Cont := ⟨0,0,[[.lbl ps asg body st pend regs]],4⟩
def sY (s : St) (kL g : Nat) (ps : Array Tmp) (asg body : Code) (regs : Nat → PV) (d : Nat) (K : St → Prop) : Exit → St → Prop
 |.normal,s' => s'.own kL = (g,some (bE ps asg body .busy none regs)) ∧ K (({ reg := s.reg,own := (s'.setOwn kL g (some (bE ps asg body .ready none regs))).own } : St).putR d (.bool true))
 |.exit id,s' => s'.own kL = (g,some (bE ps asg body .busy none regs)) ∧ K (({ reg := s.reg,own := (s'.setOwn kL g (some (bE ps asg body .done (some (.exit id)) regs))).own } : St).putR d (.bool false))
 |.ret,s' => s'.own kL = (g,some (bE ps asg body .busy none regs)) ∧ K (({ reg := s.reg,own := (s'.setOwn kL g (some (bE ps asg body .done (some .ret) regs))).own } : St).putR d (.bool false))
 |_,_ => False
def jC (s : St) (kL g : Nat) (ps : Array Tmp) (asg body : Code) (Q : Exit → St → Prop) : Exit → St → Prop
 |.normal,s' | .ret,s' => (s'.own kL = (g,some (bE ps asg body .ready none s.reg)) ∧ Q .normal { reg := s.reg,own := (s'.setOwn kL (g + 1) none).own }) ∨
   (∃ id,s'.own kL = (g,some (bE ps asg body .done (some (.exit id)) s.reg)) ∧ Q (.exit id) { reg := s.reg,own := (s'.setOwn kL (g + 1) none).own }) ∨
   (s'.own kL = (g,some (bE ps asg body .done (some .ret) s.reg)) ∧ Q .ret { reg := s.reg,own := (s'.setOwn kL (g + 1) none).own })
 |_,_ => False
section
variable {P : Program} {L : Lay} {C : Ctx} {γ : Nat → Option Nat} {s : St} {a : Act} {w : World}
theorem Sim.yl_at (_h : Sim C γ s a w) {k g : Nat} {c : Cont} {v : Value} (hr : Rep (ae C γ s w) (.yl k g) v) (ho : s.own k = (g,some c)) : ∃ b,γ k = some b ∧ v = .func (.yield b) #[] #[] := by
 cases hr with
 |d h => cases h
 |yl hg hl => exact (hl (by simp [ae,ho]) ⟨γ k,c.ty,c.sz,c.rows.length⟩ (by simp [ae,ho])).2
theorem Sim.turnLoop {s' : St} {a' : Act} {w3 : World} {C2 : Ctx} {γ' : Nat → Option Nat} (hs' : Sim C2 γ' s' a' w3) {kL g b : Nat} {ps : Array Tmp} {asg body : Code} {regs : Nat → PV} {st : LoopState} {pend : Option Code} (ho : s'.own kL = (g,some (bE ps asg body st pend regs))) (hb : γ' kL = some b) :
  ∃ rec : Loop,w3.heap[b]? = some (.loop rec) ∧ rec.state = st ∧ rec.pending = pend ∧ ∀ (st2 : LoopState) (pend2 : Option Code),Sim C2 γ' (s'.setOwn kL g (some (bE ps asg body st2 pend2 regs))) a' (w3.putObj b (.loop { rec with state := st2,pending := pend2 })) := by
 have hit := (hs'.sites kL _ (by rw [ho])).it b hb rfl (show (3:Nat) ≤ 4 by decide)
 obtain ⟨rec,regs',h1,h2,h3',h3,h4,h5⟩ : kS (ae C2 γ' s' w3) b (bE ps asg body st pend regs).rows := hit
 have h1 : w3.heap[b]? = some (.loop rec) := h1
 simp only [bE,List.cons.injEq,PV.lbl.injEq,and_true] at h2
 obtain ⟨e1,e2,e3,e4,e5,e6⟩ := h2
 subst e6
 refine ⟨rec,h1,e4.symm,e5.symm,fun st2 pend2 => ?_⟩
 obtain ⟨hp,hnew⟩ := eE (o' := .loop { rec with state := st2,pending := pend2 }) h1
 have hnc : ∀ cur T f,w3.heap[b]? ≠ some (.cells cur T f) := fun cur T f e => by rw [h1] at e;cases e
 have hle := gp (c' := bE ps asg body st2 pend2 regs) hs' ho hb hnc hp rfl rfl (Nat.le_refl _)
 refine eF hs' ho hb hnc hp rfl rfl (Nat.le_refl _) ⟨(fun e => by cases e),(fun b' _ _ hk => by simp [bE] at hk),fun b' hb' _ _ => ?_,(fun b' _ hz => by simp [bE] at hz)⟩
 cases hb'
 show kS _ _ _
 exact ⟨{ rec with state := st2,pending := pend2 },regs,hnew,by simp [bE,← e1,← e2,← e3],h3',h3,h4,fun t => (h5 t).mono hle⟩
theorem xq {o : Oper} {args : Array Operand} {tys : Array TypeId} {tf d kL g : Nat} {ps : Array Tmp} {asg body : Code} {regs : Nat → PV} {K : St → Prop} (ho : o.op = .call ⟨.value (.tmp tf),args,tys⟩) (hd : o.dst = some d) (hy : s.reg tf = .yl kL g)
  (hown : s.own kL = (g,some (bE ps asg body .ready none regs))) (hps : args.size = ps.size)
  (h : PWP P L asg (au (fun s2 => s2.own kL = (g,some (bE ps asg body .ready none regs)) ∧ PWP P L body (sY s kL g ps asg body regs d K) { reg := s2.reg,own := (s2.setOwn kL g (some (bE ps asg body .busy none regs))).own }) (fun _ _ => False)) { reg := mF (ps.toList.zip (args.toList.map s.ev)) regs,own := s.own }) : BP P L s o K := by
 intro ro n C a w Q hG ⟨γ,hs⟩ hN hQ
 have hyr := hs.ev (.tmp tf)
 rw [show s.ev (.tmp tf) = .yl kL g from hy] at hyr
 obtain ⟨b,hb,hv⟩ := hs.yl_at hyr hown
 have hit := (hs.sites kL _ (by rw [hown])).it b hb rfl (show (3:Nat) ≤ 4 by decide)
 obtain ⟨rec,regs',h1,h2,h3',h3,h4,h5⟩ : kS (ae C γ s w) b (bE ps asg body .ready none regs).rows := hit
 have h1 : w.heap[b]? = some (.loop rec) := h1
 simp only [bE,List.cons.injEq,PV.lbl.injEq,and_true] at h2
 obtain ⟨e1,e2,e3,e4,e5,e6⟩ := h2
 subst e6
 refine ⟨fun _ _ => trivial,?_⟩
 have hexec : (o.semAt (Fr ro).round a.eval).run P w = .ok (.round b rec.fn ((rec.params.zip (args.map a.eval)).foldl (fun tmps (t,a) => tmps.setIfInBounds t a) rec.tmps) rec.assign rec.body) w := by
  rw [Oper.semAt_eq _ _ _ (fun c e => by rw [ho] at e;cases e)]
  simp only [execOp,ho,resolve,hv,Deferred.ofValue,Sem.run_bind,Sem.run_pure,Result.andThen_ok,invoke]
  rw [show (#[] ++ args.map a.eval : Array Value) = args.map a.eval by simp]
  exact run_yield h1 (by rw [← e1];simpa using hps)
 rw [hexec,Oper.uponIn_round]
 refine ⟨fun e => by simp [Fr,Fence.wide] at e,?_⟩
 refine roundIn_of_wpIn trivial ?_
 rw [← e2,← e3]
 rw [← e2] at h3'
 rw [← e3] at h3
 let C2 : Ctx := ⟨C.B,C.X,C.w0,rec.tmps.size,fun c v => C.keep c v ∨ ∃ t,c = s.reg t ∧ v = a.tmps.getD t undef,[]⟩
 have hG2 : Good P L C2 := ⟨hG.lay,hG.x,hG.mixed,hG.glob⟩
 have hfold : (rec.params.zip (args.map a.eval)).foldl (fun tmps (t,a) => tmps.setIfInBounds t a) rec.tmps = (ps.toList.zip (args.toList.map a.eval)).foldl (fun t q => t.setIfInBounds q.1 q.2) rec.tmps := by
  rw [← e1,← Array.foldl_toList,Array.toList_zip,Array.toList_map]
 obtain ⟨b1,b2⟩ := mG (E := ae C γ s w) ps.toList (args.toList.map s.ev) (args.toList.map a.eval) regs rec.tmps (by simpa using hps.symm) (by simp)
  (fun p hp => by rw [e1] at hp;simpa using List.all_eq_true.1 h4 p hp) (fun t => h5 t) (fun i c v q1 q2 => by
   rw [List.getElem?_map] at q1 q2
   cases hx : args.toList[i]? with
   |none => rw [hx] at q1;simp at q1
   |some x => rw [hx] at q1 q2;simp at q1 q2;subst q1;subst q2;exact hs.ev x)
 rw [hfold]
 have hsim2 : SimE C2 { reg := mF (ps.toList.zip (args.toList.map s.ev)) regs,own := s.own } { tmps := (ps.toList.zip (args.toList.map a.eval)).foldl (fun t q => t.setIfInBounds q.1 q.2) rec.tmps,defers := [] } w := by
  refine ⟨γ,rfl,b1,b2,hs.sites,hs.inj,hs.base,hs.below,hs.top,?_⟩
  rintro c v (hk | ⟨t,rfl,rfl⟩)
  ·exact hs.kept c v hk
  ·exact hs.regs t
 rw [vN]
 refine wpIn_mono (PWP.soundX (X := fun A B => A = B) (fun _ => rfl) (fun h k => h.trans k) (fun h => by subst h;exact .refl _) (r := false) (fun h => by cases h) asg _ C2 _ _ _ hG2 h3' (fun _ hq => hq) hsim2 h) ?_
 rintro e aA wA ⟨C',sA,rfl,⟨γA,hsA⟩,hq⟩
 have he : e = .normal := by
  cases e
  case normal => rfl
  all_goals exact absurd hq id
 subst he
 obtain ⟨hownA,hbodyA⟩ := hq
 show ∃ w₂,_
 have hkyA := hsA.kept (.yl kL g) (.func (.yield b) #[] #[]) (.inr ⟨tf,hy.symm,hv.symm⟩)
 obtain ⟨bA,hbA,hvA⟩ := hsA.yl_at hkyA hownA
 have hbb : b = bA := by injection hvA with q;injection q with q
 subst hbb
 obtain ⟨rec2,r1,r2,r3,r4⟩ := hsA.turnLoop hownA hbA
 have hs1 := r4 .busy none
 have hw2 : wA.putObj b (.loop { rec2 with state := .busy,pending := none }) = wA.putObj b (.loop { rec2 with state := .busy }) := by
  have : ({ rec2 with state := .busy,pending := none } : Loop) = { rec2 with state := .busy } := by rw [← r3]
  rw [this]
 rw [hw2] at hs1
 refine ⟨_,run_beginRound r1 r2,?_⟩
 have hsimB : SimE C2 { reg := sA.reg,own := (sA.setOwn kL g (some (bE ps asg body .busy none regs))).own } aA (wA.putObj b (.loop { rec2 with state := .busy })) := ⟨γA,hs1⟩
 refine wpIn_mono (PWP.soundX (X := fun A B => A = B) (fun _ => rfl) (fun h k => h.trans k) (fun h => by subst h;exact .refl _) (r := false) (fun h => by cases h) body _ C2 _ _ _ hG2 h3 (fun _ hq => hq) hsimB hbodyA) ?_
 have fin : ∀ {s' : St} {a' : Act} {w3 : World} (jump : Option Code) (st : LoopState),st = (if jump.isNone then .ready else .done) → SimE C2 s' a' w3 → s'.own kL = (g,some (bE ps asg body .busy none regs)) →
   K (({ reg := s.reg,own := (s'.setOwn kL g (some (bE ps asg body st jump regs))).own } : St).putR d (.bool jump.isNone)) →
   ∃ v w4,(Instr.endRound b jump).run P w3 = .ok v w4 ∧ ∃ s'',SimE C s'' (a.put o.dst v) w4 ∧ K s'' := by
  rintro s' a' w3 jump st rfl ⟨γ',hs'⟩ hown' hk
  have hky := hs'.kept (.yl kL g) (.func (.yield b) #[] #[]) (.inr ⟨tf,hy.symm,hv.symm⟩)
  obtain ⟨b',hb',hvb⟩ := hs'.yl_at hky hown'
  have hbb : b' = b := by injection hvb with q;injection q with q;exact q.symm
  subst hbb
  obtain ⟨rec3,q1,q2,q3,q4⟩ := hs'.turnLoop hown' hb'
  have hs4 := q4 (if jump.isNone then .ready else .done) jump
  refine ⟨_,_,run_endRound jump q1,_,⟨γ',?_⟩,hk⟩
  have hback : Sim C γ' { reg := s.reg,own := (s'.setOwn kL g (some (bE ps asg body (if jump.isNone then .ready else .done) jump regs))).own } a (w3.putObj b' (.loop { rec3 with state := if jump.isNone then .ready else .done,pending := jump })) :=
   ⟨hs.defers,hs.size,fun r => hs4.kept _ _ (.inr ⟨r,rfl,rfl⟩),hs4.sites,hs4.inj,hs4.base,hs4.below,hs4.top,fun c v hk => hs4.kept c v (.inl hk)⟩
  rw [hd]
  rw [hd] at hN
  exact hback.put (d := some d) hN (.d (.bool _))
 rintro e a' w3 ⟨C',s',rfl,h',hq⟩
 cases e
 case normal => exact fin none .ready rfl h' hq.1 hq.2
 case ret => exact fin (some .ret) .done rfl h' hq.1 hq.2
 case exit id => exact fin (some (.exit id)) .done rfl h' hq.1 hq.2
 all_goals exact hq.elim
theorem p5 {Q : Exit → St → Prop} {g : Operand} {ps : Array Tmp} {assign body : Code} (h : qF P L g ps assign body Q s) : PWP P L (.rangeFunc g ps assign body) Q s := Gh.of h
theorem ni {Q : Exit → St → Prop} {g : Operand} {gf : FuncId} {caps : List PV} {fn : Func} {bodyI : Code} {ps : Array Tmp} {asg body : Code} (kL : Nat) {gn : Nat} {oc : Option Cont} (hg : s.ev g = .clo gf caps) (hf : P.funcs[gf]? = some fn) (hb : fn.body = some bodyI)
  (hn : (fn.name == "runtime.NumGoroutine") = false) (hlen : Nat.ble (1 + caps.length) fn.ntmps = true) (hc : iu fn.ntmps bodyI = true) (hres : fn.results = #[]) (hown : s.own kL = (gn, oc))
  (h : PWP P L bodyI (jC s kL (gn + 1) ps asg body Q) { reg := fun t => ((.yl kL (gn + 1)) :: caps).getD t (.raw undef),own := (s.setOwn kL (gn + 1) (some (bE ps asg body .ready none s.reg))).own }) : qF P L g ps asg body Q s := by
 intro n C a w hG ⟨γ,hs⟩ hcode hQ
 simp only [dG,Bool.true_and,Bool.and_eq_true] at hcode
 obtain ⟨⟨hpsN,hasg⟩,hbody⟩ := hcode
 refine wpIn_rangeFunc fun fnid _ => ?_
 have hge := hs.ev g
 rw [hg] at hge
 obtain ⟨vs,hv,hl,hd⟩ := hge.clo_inv
 have hcal : dx P gf := ⟨fn,hf,hn,by simp [hb]⟩
 obtain ⟨rec,hrec⟩ : ∃ rec : Loop,rec = { state := .ready,pending := none,fn := fnid,tmps := a.tmps,params := ps,assign := asg,body := body,defers := w.heap.size } := ⟨_,rfl⟩
 refine ⟨w.heap.size + 1,[qX w.heap.size],(w.alloc (.deferred (some []))).alloc (.loop rec),{ target := .fn (.func gf) vs.toArray,args := #[.func (.yield (w.heap.size + 1)) #[] #[]] },(w.alloc (.deferred (some []))).alloc (.loop rec),gf,
  #[Value.func (.yield (w.heap.size + 1)) #[] #[]] ++ vs.toArray,(w.alloc (.deferred (some []))).alloc (.loop rec),by rw [hrec];exact run_enterLoop_outer _ _ _ _ _,?_,fun _ _ => trivial,?_,fun e => by simp [Fr,Fence.wide] at e,?_⟩
 ·simp only [resolve,hv]
  simp [go_sem]
 ·simp only [invoke]
  exact jn hcal _
 refine callsIn_of_wp hf hb trivial ?_
 have hbel : Below w.heap.size w (w.alloc (.deferred (some []))) := (Below.refl _ w).alloc (Nat.le_refl _) _
 have hD := hs.ext hbel
 have hsz : (w.alloc (.deferred (some []))).heap.size = w.heap.size + 1 := by simp
 have hT : Turn C γ s (w.alloc (.deferred (some []))) ((w.alloc (.deferred (some []))).alloc (.loop rec)) kL (some (w.alloc (.deferred (some []))).heap.size) := Turn.alloc _ kL
 have hle := hT.le hD (bE ps asg body .ready none s.reg)
 have hfin : s.fin kL (bE ps asg body .ready none s.reg) = s.setOwn kL (gn + 1) (some (bE ps asg body .ready none s.reg)) := by rw [St.fin,hown]
 have hs1 := hT.sim (c := bE ps asg body .ready none s.reg) hD ⟨(fun e => by cases e),(fun b' _ _ hk => by simp [bE] at hk),fun b' hb' _ _ => by
  cases hb'
  show kS _ _ _
  refine ⟨rec,s.reg,aW _ _,by rw [hrec];rfl,by rw [hrec];simpa [hs.size] using hasg,by rw [hrec];simpa [hs.size] using hbody,by rw [hrec];simpa [hs.size] using hpsN,fun t => ?_⟩
  rw [show rec.tmps = a.tmps by rw [hrec]];exact (hD.regs t).mono hle,(fun b' _ hz => by simp [bE] at hz)⟩
 rw [hfin,hsz] at hs1
 rw [hfin,hsz] at hle
 have hDobj : ((w.alloc (.deferred (some []))).alloc (.loop rec)).heap[w.heap.size]? = some (.deferred (some [])) := by
  rw [Below.heap_alloc _ _ _ (by simp)]
  exact aW w _
 have hDok : c8 C (fv γ kL (some (w.heap.size + 1))) (s.setOwn kL (gn + 1) (some (bE ps asg body .ready none s.reg))) ((w.alloc (.deferred (some []))).alloc (.loop rec)) w.heap.size := by
  refine ⟨by simp;omega,fun hx => ?_,fun k c hk hb' => ?_⟩
  ·have := hG.x _ hx;have := hs.top;omega
  ·by_cases hkk : k = kL
   ·subst hkk
    rw [bq] at hb'
    injection hb' with q;omega
   ·rw [aq hkk] at hk
    rw [dF hkk] at hb'
    have := (hs.base k c _ hk hb').2;omega
 let C1 : Ctx := ⟨C.B,C.X,C.w0,fn.ntmps,fun c v => C.keep c v ∨ (∃ t,c = s.reg t ∧ v = a.tmps.getD t undef) ∨ (c = .dfd ∧ v = .pointer (some ⟨w.heap.size,0,none⟩)) ∨ (c = .yl kL (gn + 1) ∧ v = .func (.yield (w.heap.size + 1)) #[] #[]),[]⟩
 have hG1 : Good P L C1 := ⟨hG.lay,hG.x,hG.mixed,hG.glob⟩
 have hyl : Rep (ae C (fv γ kL (some (w.heap.size + 1))) (s.setOwn kL (gn + 1) (some (bE ps asg body .ready none s.reg))) ((w.alloc (.deferred (some []))).alloc (.loop rec))) (.yl kL (gn + 1)) (.func (.yield (w.heap.size + 1)) #[] #[]) := by
  refine .yl (by simp [ae,ag]) fun _ l hl => ?_
  simp only [ae,ag,bq,Option.map_some,Option.some.injEq] at hl
  subst hl
  exact ⟨rfl,_,rfl,rfl⟩
 have hlen' : 1 + vs.length ≤ fn.ntmps := by rw [← hl];simpa using hlen
 have hargs : ∀ t,Rep (ae C (fv γ kL (some (w.heap.size + 1))) (s.setOwn kL (gn + 1) (some (bE ps asg body .ready none s.reg))) ((w.alloc (.deferred (some []))).alloc (.loop rec))) (((.yl kL (gn + 1)) :: caps).getD t (.raw undef))
   ((#[Value.func (.yield (w.heap.size + 1)) #[] #[]] ++ vs.toArray ++ Array.replicate (fn.ntmps - (#[Value.func (.yield (w.heap.size + 1)) #[] #[]] ++ vs.toArray).size) undef).getD t undef) := by
  intro t
  cases t with
  |zero =>
   have e2 : (#[Value.func (.yield (w.heap.size + 1)) #[] #[]] ++ vs.toArray ++ Array.replicate (fn.ntmps - (#[Value.func (.yield (w.heap.size + 1)) #[] #[]] ++ vs.toArray).size) undef).getD 0 undef = Value.func (.yield (w.heap.size + 1)) #[] #[] := by
    simp [Array.getElem?_append]
   rw [e2];exact hyl
  |succ t =>
   rcases Nat.lt_or_ge t vs.length with hlt | hge
   ·have hlt' : t < caps.length := by omega
    have e1 : ((PV.yl kL (gn + 1)) :: caps).getD (t + 1) (.raw undef) = caps[t] := by simp [hlt']
    have e2 : (#[Value.func (.yield (w.heap.size + 1)) #[] #[]] ++ vs.toArray ++ Array.replicate (fn.ntmps - (#[Value.func (.yield (w.heap.size + 1)) #[] #[]] ++ vs.toArray).size) undef).getD (t + 1) undef = vs[t] := by
     rw [Array.getD_eq_getD_getElem?,Array.getElem?_append_left (by simp;omega),Array.getElem?_append_right (by simp)]
     simp [hlt]
    rw [e1,e2]
    exact (hd t caps[t] vs[t] (List.getElem?_eq_getElem hlt') (List.getElem?_eq_getElem hlt)).mono ((fe hbel hs.base).trans' hle)
   ·have e1 : ((PV.yl kL (gn + 1)) :: caps).getD (t + 1) (.raw undef) = .raw undef := by simp [List.getElem?_eq_none (by omega : caps.length ≤ t)]
    have e2 : (#[Value.func (.yield (w.heap.size + 1)) #[] #[]] ++ vs.toArray ++ Array.replicate (fn.ntmps - (#[Value.func (.yield (w.heap.size + 1)) #[] #[]] ++ vs.toArray).size) undef).getD (t + 1) undef = undef := by
     rw [Array.getD_eq_getD_getElem?,Array.getElem?_append_right (by simp;omega)]
     rcases Nat.lt_or_ge (t + 1 - (#[Value.func (.yield (w.heap.size + 1)) #[] #[]] ++ vs.toArray).size) (fn.ntmps - (#[Value.func (.yield (w.heap.size + 1)) #[] #[]] ++ vs.toArray).size) with h1 | h1
     ·rw [Array.getElem?_replicate,if_pos h1];rfl
     ·rw [Array.getElem?_eq_none (by simpa using h1)];rfl
    rw [e1,e2]
    exact .d (.raw _)
 have hsim : SimE C1 { reg := fun t => ((.yl kL (gn + 1)) :: caps).getD t (.raw undef),own := (s.setOwn kL (gn + 1) (some (bE ps asg body .ready none s.reg))).own }
   { tmps := #[Value.func (.yield (w.heap.size + 1)) #[] #[]] ++ vs.toArray ++ Array.replicate (fn.ntmps - (#[Value.func (.yield (w.heap.size + 1)) #[] #[]] ++ vs.toArray).size) undef,defers := [] } ((w.alloc (.deferred (some []))).alloc (.loop rec)) := by
  refine ⟨fv γ kL (some (w.heap.size + 1)),rfl,by simp [C1];omega,hargs,hs1.sites,hs1.inj,hs1.base,hs1.below,hs1.top,?_⟩
  rintro c v (hk | ⟨t,rfl,rfl⟩ | ⟨rfl,rfl⟩ | ⟨rfl,rfl⟩)
  ·exact hs1.kept c v hk
  ·exact hs1.regs t
  ·exact .dfd hDok hDobj
  ·exact hyl
 refine wpIn_mono (PWP.soundX (X := fun A B => A = B) (fun _ => rfl) (fun h k => h.trans k) (fun h => by subst h;exact .refl _) (r := false) (fun h => by cases h) bodyI _ C1 _ _ _ hG1 hc (fun _ hq => hq) hsim h) ?_
 have fin : ∀ {s' : St} {a' : Act} {w3 : World} (pend : Option Code) (st : LoopState),st ≠ .busy → SimE C1 s' a' w3 → s'.own kL = (gn + 1,some (bE ps asg body st pend s.reg)) →
   ∃ w4,(Instr.endLoop (w.heap.size + 1)).run P w3 = .ok pend w4 ∧ ∃ C4,Ext C C4 ∧ SimE C4 { reg := s.reg,own := (s'.setOwn kL (gn + 1 + 1) none).own } { a with defers := [qX w.heap.size] ++ a.defers } w4 := by
  rintro s' a' w3 pend st hst ⟨γ',hs'⟩ hown'
  have hky := hs'.kept (.yl kL (gn + 1)) (.func (.yield (w.heap.size + 1)) #[] #[]) (.inr (.inr (.inr ⟨rfl,rfl⟩)))
  obtain ⟨b',hb',hvb⟩ := hs'.yl_at hky hown'
  have hbb : b' = w.heap.size + 1 := by injection hvb with q;injection q with q;exact q.symm
  subst hbb
  obtain ⟨rec3,q1,q2,q3,q4⟩ := hs'.turnLoop hown' hb'
  have hs4 := q4 .exhausted pend
  have hw4 : w3.putObj (w.heap.size + 1) (.loop { rec3 with state := .exhausted,pending := pend }) = w3.putObj (w.heap.size + 1) (.loop { rec3 with state := .exhausted }) := by
   have : ({ rec3 with state := .exhausted,pending := pend } : Loop) = { rec3 with state := .exhausted } := by rw [← q3]
   rw [this]
  rw [hw4] at hs4
  refine ⟨_,by rw [← q3];exact run_endLoop q1 (by rw [q2];exact hst),?_⟩
  obtain ⟨hs5,_,_⟩ := hs4.drop hG1.x (ag s' kL (gn + 1) _)
  have hoo : ((s'.setOwn kL (gn + 1) (some (bE ps asg body .exhausted pend s.reg))).setOwn kL (gn + 1 + 1) none).own = (s'.setOwn kL (gn + 1 + 1) none).own := by
   funext r
   by_cases hr : r = kL
   ·subst hr;rw [ag,ag]
   ·rw [aq hr,aq hr,aq hr]
  have key : ∀ ow,ow = (s'.setOwn kL (gn + 1 + 1) none).own → Sim C1 γ' { reg := s'.reg,own := ow } a' (w3.putObj (w.heap.size + 1) (.loop { rec3 with state := .exhausted })) →
    ∃ C4,Ext C C4 ∧ SimE C4 { reg := s.reg,own := (s'.setOwn kL (gn + 1 + 1) none).own } { a with defers := [qX w.heap.size] ++ a.defers } (w3.putObj (w.heap.size + 1) (.loop { rec3 with state := .exhausted })) := by
   rintro ow rfl hs6
   refine ⟨⟨C.B,C.X,C.w0,C.N,fun c v => C.keep c v ∨ (c = .dfd ∧ v = .pointer (some ⟨w.heap.size,0,none⟩)),w.heap.size :: C.dfs⟩,⟨rfl,rfl,rfl,rfl,fun c v hk => .inl hk,fun hdk => ⟨?_,?_⟩⟩,γ',?_,hs.size,fun r => hs6.kept _ _ (.inr (.inl ⟨r,rfl,rfl⟩)),hs6.sites,hs6.inj,hs6.base,hs6.below,hs6.top,?_⟩
   ·rw [List.nodup_cons]
    refine ⟨fun hm => ?_,hdk.1⟩
    have := hs.kept _ _ (hdk.2 _ hm).2
    cases this with
    |d hd => cases hd
    |dfd h1 _ => exact absurd h1.1 (Nat.lt_irrefl _)
   ·intro D hDm
    rcases List.mem_cons.1 hDm with rfl | hDm
    ·exact ⟨hs.top,.inr ⟨rfl,rfl⟩⟩
    ·exact ⟨(hdk.2 D hDm).1,.inl (hdk.2 D hDm).2⟩
   ·show [qX w.heap.size] ++ a.defers = _
    rw [hs.defers];rfl
   ·rintro c v (hk | ⟨rfl,rfl⟩)
    ·exact hs6.kept c v (.inl hk)
    ·exact hs6.kept _ _ (.inr (.inr (.inl ⟨rfl,rfl⟩)))
  exact key _ hoo hs5
 have ends : ∀ {s' : St} {a' : Act} {w3 : World},SimE C1 s' a' w3 → jC s kL (gn + 1) ps asg body Q .ret s' → a'.defers = [] ∧ ∃ v,(results fn a'.tmps).run P w3 = .ok v w3 ∧
   rangePost (Fr none) n P (w.heap.size + 1) (uI Ext C Q) { a with defers := [qX w.heap.size] ++ a.defers } (.returned v) w3 := by
  intro s' a' w3 h' hq
  refine ⟨by obtain ⟨_,h'⟩ := h';exact h'.defers,.tuple #[],by simp [results,hres],?_⟩
  rcases hq with ⟨ho,hq⟩ | ⟨id,ho,hq⟩ | ⟨ho,hq⟩
  ·obtain ⟨w4,e1,C4,e2,e3⟩ := fin none .ready (by simp) h' ho
   exact ⟨none,w4,e1,C4,_,e2,e3,hq⟩
  ·obtain ⟨w4,e1,C4,e2,e3⟩ := fin (some (.exit id)) .done (by simp) h' ho
   exact ⟨some (.exit id),w4,e1,wpIn_exit ⟨C4,_,e2,e3,hq⟩⟩
  ·obtain ⟨w4,e1,C4,e2,e3⟩ := fin (some .ret) .done (by simp) h' ho
   exact ⟨some .ret,w4,e1,wpIn_ret ⟨C4,_,e2,e3,hq⟩⟩
 rintro e a' w3 ⟨C',s',rfl,h',hq⟩
 cases e
 case normal => exact ends h' hq
 case ret => exact ends h' hq
 all_goals exact hq.elim
end
end Go.Pv
set_option maxHeartbeats 2000000
namespace Go.Pv
attribute [local irreducible] PWP POps PQuiet PSem au ar aj ai
open Go.Proofs
def CR.s (c : CR) (k : Nat) : Rat := (c.S.getD k 0 : Int)
def CR.m (c : CR) (k : Nat) : Rat := (c.M.getD k RR.zero).val
def yb (c : CR) : Nat → RR
 |0 => ofQ ((0 : Int) : Rat)
 |k + 1 => c.M.getD k RR.zero
theorem pE (c : CR) (hc : c.Lim) (k : Nat) : Vq (c.M.getD k RR.zero) (c.m k) 12 := by
 refine ⟨rfl,?_⟩
 rw [List.getD_eq_getElem?_getD]
 cases h : c.M[k]? with
 |none => exact ⟨Nat.zero_le _,Nat.zero_le _⟩
 |some x => exact hc.m x (List.mem_of_getElem? h)
theorem mE (c : CR) (hc : c.Lim) (k : Nat) : Vq (yb c k) (aQ c.m k) 12 := by
 cases k with
 |zero =>
  refine ⟨ofQ_val _,?_⟩
  have := (ia (HQ.int (z := 0) (h := ⟨by decide⟩)).ok).ok
  show (ofQ ((0 : Int) : Rat)).n.l.length ≤ 12 ∧ (ofQ ((0 : Int) : Rat)).d.l.length ≤ 12
  exact ⟨by have := this.1;omega,by have := this.2;omega⟩
 |succ k => exact pE c hc k
theorem kf {c : CR} (hc : c.Lim) (k : Nat) : i64 (c.S.getD k 0) := by
 rw [List.getD_eq_getElem?_getD]
 cases h : c.S[k]? with
 |none => exact ⟨by decide,by decide⟩
 |some x => exact hc.s x (List.mem_of_getElem? h)
def zW (q0 q2 q3 g4 g7 b4 : Nat) (rec x2 x3 x1004 : Cont) (before sum : RR) : List (Nat × Nat × Cont) :=
 [(2000,q0,rec),(2002,q2,x2),(2003,q3,x3),(4,b4,⟨26,4,[eR before],2⟩),(1004,g4,x1004),(1007,g7,⟨26,4,[eR sum],2⟩)]
theorem j5 {s : St} (k : Nat) : Ghost s (s.setOwn k ((s.own k).1 + 2) none) := Ghost.drop rfl
theorem n7 {L : Lay} {fn : Func} {K : St → PV → Prop} {s : St} {t : Nat} {v : PV} (h : fn.results.toList = [.tmp t]) (h1 : s.reg t = v) (hk : K s v) : ai L fn K .ret s := by
 unfold ai
 refine ⟨[s.reg t],True ∧ True,by rw [h];rfl,⟨trivial,trivial⟩,?_⟩
 rw [h1];exact hk
theorem gR {P : Program} {L : Lay} {x : Code} {Q : Exit → St → Prop} {s : St} (R : List (Nat × PV)) (O : List (Nat × Nat × Cont)) (hf : Fit s R O) (h : ∀ s1 : St,PWP P L x Q (s1.over R O)) : PWP P L x Q s := by
 have := h s
 rwa [Fit.over hf] at this
set_option maxRecDepth 20000 in
theorem lR {Q : Exit → St → Prop} {a b : Nat} {asg body : Code} {sc : St} (c : CR) (hc : c.Lim) (y : RR) {q : Rat} {n : Nat} (hy : Vq y q n) (hn : n ≤ 9000000) (hSM : c.M.length = c.S.length) (V : Nat → RR) {q0 q2 q3 g4 g7 : Nat} {x1004 : Cont} (s0 : St)
  (hown : Fit s0 [] [(2000,q0,bE #[a,b] asg body .ready none sc.reg),(2002,q2,⟨120,2,[eC c],2⟩),(2003,q3,⟨26,4,[eR y],2⟩),(1004,g4,x1004),(1007,g7,⟨26,4,[eR (V 0)],2⟩)])
  (hround : ∀ i,i < c.S.length → ¬ q - c.s i < 0 → ∀ (b4 : Nat) (bf : RR) (own : Nat → Nat × Option Cont),Fit { reg := fun _ => .raw undef,own := own } [] (zW q0 q2 q3 g4 g7 b4 (bE #[a,b] asg body .ready none sc.reg) ⟨120,2,[eC c],2⟩ ⟨26,4,[eR y],2⟩ x1004 bf (V i)) →
   ∀ kT : Exit → St → Prop,(∀ s2,Fit s2 [] (zW q0 q2 q3 g4 g7 b4 (bE #[a,b] asg body .busy none sc.reg) ⟨120,2,[eC c],2⟩ ⟨26,4,[eR y],2⟩ x1004 bf (V (i + 1))) → kT .normal s2) →
   PWP Tryz.prog lay.get asg (au (fun s2 => s2.own 2000 = (q0,some (bE #[a,b] asg body .ready none sc.reg)) ∧ PWP Tryz.prog lay.get body kT { reg := s2.reg,own := (s2.setOwn 2000 q0 (some (bE #[a,b] asg body .busy none sc.reg))).own }) (fun _ _ => False))
    { reg := mF [(a,.agg (eR (ofQ (c.m i - aQ c.m i)))),(b,.agg (eR (ofQ (q - c.s i))))] sc.reg,own := own })
  (hend : ∀ i,i ≤ c.S.length → (i = c.S.length ∨ (i < c.S.length ∧ q - c.s i < 0)) → ∀ (b4 : Nat) (bf : RR) (s2 : St),Fit s2 [] (zW q0 q2 q3 g4 g7 b4 (bE #[a,b] asg body .ready none sc.reg) ⟨120,2,[eC c],2⟩ ⟨26,4,[eR y],2⟩ x1004 bf (V i)) →
   Q .normal { reg := sc.reg,own := (s2.setOwn 2000 (q0 + 1) none).own }) :
  PWP Tryz.prog lay.get ((Tryz.f191.body).getD .skip) (jC sc 2000 q0 #[a,b] asg body Q) { reg := fun t => [PV.yl 2000 q0,.ptr 2002 q2 0 0,.ptr 2003 q3 0 0].getD t (.raw undef),own := s0.own } := by
 have hz := dl 0 (by decide) (by decide)
 have hSl : (c.S.map eN).length = c.S.length := by simp
 rw [← Fit.over (l := []) hown]
 generalize hrd : bE #[a,b] asg body .ready none sc.reg = rd at *
 repeat refine aa rfl ?_
 refine ap rfl rfl rfl hz rfl rfl ?_
 repeat refine aa rfl ?_
 refine ao (fun k : Nat × Nat × RR => k.1 ≤ c.S.length ∧ k.2.2 = yb c k.1) (fun k => [(0,.yl 2000 q0),(1,.ptr 2002 q2 0 0),(2,.ptr 2003 q3 0 0),(4,.ptr 4 k.2.1 0 0),(10,.sl (c.S.map eN)),(11,I c.S.length),(12,I (k.1 : Nat))])
  (fun k => zW q0 q2 q3 g4 g7 k.2.1 rd ⟨120,2,[eC c],2⟩ ⟨26,4,[eR y],2⟩ x1004 k.2.2 (V k.1)) (fun k => c.S.length - k.1) (0,_,yb c 0) ⟨Nat.zero_le _,rfl⟩ ⟨rfl,rfl,rfl,rfl,rfl,by rw [← hSl];rfl,rfl,rfl,rfl,rfl,rfl,rfl,rfl,trivial⟩ ?_
 rintro ⟨i,b4,bf⟩ st ⟨hi,hbf⟩
 simp only at hi hbf
 subst hbf
 dsimp only
 repeat refine aa rfl ?_
 refine ab rfl ?_ ?_<;>intro h
 ·have hlt : i < c.S.length := by have := of_decide_eq_true h;omega
  clear h
  have hx := bi (d := 0) hlt
  have hxb := kf hc i
  have hnum := dl (c.S.getD i 0) hxb.1 hxb.2
  have hzb : Zb (c.S.getD i 0) := a8 hxb.1 hxb.2
  have hsub := jX y (ofQ ((c.S.getD i 0 : Int) : Rat)) (hx := hy) (by omega) (by decide)
  have hfar : Vq (ofQ (q - ((c.S.getD i 0 : Int) : Rat))) (q - c.s i) (n + 1 + 4 + 1) := Vq.ofQ (h := @HQ.sub _ _ (n + 1) 4 hy.hq HQ.int)
  have hsg := z6 (ofQ (q - ((c.S.getD i 0 : Int) : Rat))) (hx := hfar) (by omega)
  have hsl := cg (q - c.s i)
  have hw : IntKind.i64.wrap (((i : Nat) : Int) + 1) = ((i + 1 : Nat) : Int) := by
   have := c.S.length
   rw [wrap_i64 (by omega) (by have := hc.ls;omega)];omega
  repeat refine aa rfl ?_
  refine bO rfl rfl rfl rfl rfl rfl rfl hx rfl ?_
  (repeat ((fail_if_success (with_reducible refine aM 4 ?_));refine cF rfl ?_))
  refine aB (j5 7) ?_
  refine bj 4 1 [17,18,19,20,7] [] (by decide +kernel) rfl ?_
  repeat refine aa rfl ?_
  refine ap rfl rfl rfl hnum rfl rfl ?_
  repeat refine aa rfl ?_
  refine ap rfl rfl rfl hsub rfl rfl ?_
  repeat refine aa rfl ?_
  refine wI 13 [21,22,23,24,25,26,27,28,29,30,31,32,33] (by decide +kernel) ?_
  repeat refine aa rfl ?_
  refine aY rfl rfl rfl hsg rfl rfl rfl ?_
  repeat refine aa rfl ?_
  refine fU rfl rfl rfl ?_ ?_<;>intro h
  ·have hneg : q - c.s i < 0 := hsl.1 (of_decide_eq_true h)
   clear h
   repeat refine aa rfl ?_
   refine nf ?_
   repeat refine aa rfl ?_
   refine .inl ⟨by rw [← hrd];rfl,?_⟩
   exact hend i (by omega) (.inr ⟨hlt,hneg⟩) b4 _ _ ⟨rfl,rfl,rfl,rfl,rfl,rfl,trivial⟩
  ·have hpos : ¬ q - c.s i < 0 := fun h2 => (of_decide_eq_false h) (hsl.2 h2)
   clear h
   have hmx := bi (l := c.M) (i := i) (d := RR.zero) (by omega)
   have hmv := pE c hc i
   have hbv := mE c hc i
   have hsub2 := jX (c.M.getD i RR.zero) (yb c i) (hx := hmv) (hy := hbv) (by decide) (by decide)
   repeat refine aa rfl ?_
   refine bO rfl rfl rfl rfl rfl rfl rfl hmx rfl ?_
   repeat refine aa rfl ?_
   refine ap rfl rfl rfl hsub2 rfl rfl ?_
   repeat refine aa rfl ?_
   refine tU rfl rfl rfl (xq (ps := #[a,b]) (asg := asg) (body := body) (regs := sc.reg) rfl rfl rfl (by rw [hrd];rfl) rfl ?_)
   rw [hrd]
   refine hround i hlt hpos b4 (yb c i) _ (by exact ⟨rfl,rfl,rfl,rfl,rfl,rfl,trivial⟩) _ (fun s2 hf => ?_)
   rw [← Fit.over (l := []) hf]
   refine ⟨rfl,?_⟩
   refine nf ?_
   repeat refine aa rfl ?_
   refine bO rfl rfl rfl rfl rfl rfl rfl hmx rfl ?_
   repeat refine aa rfl ?_
   exact ⟨(i + 1,b4,yb c (i + 1)),⟨by simp only;omega,rfl⟩,by simp only;omega,rfl,rfl,rfl,rfl,rfl,rfl,congrArg I hw,by rw [← hrd];rfl,rfl,rfl,rfl,rfl,rfl,trivial⟩
 ·have hie : i = c.S.length := by have := of_decide_eq_false h;omega
  clear h
  repeat refine aa rfl ?_
  refine .inl ⟨by rw [← hrd];rfl,?_⟩
  exact hend i (by omega) (.inl hie) b4 _ _ ⟨rfl,rfl,rfl,rfl,rfl,rfl,trivial⟩
def j4 : Code → Option (Array Tmp × Code × Code)
 |.rangeFunc _ ps a b => some (ps,a,b)
 |.seq x y => match j4 x with | some r => some r | none => j4 y
 |.block _ c => j4 c
 |.loop c => j4 c
 |.cond _ x y => match j4 x with | some r => some r | none => j4 y
 |_ => none
theorem lJ {c : CR} (hc : c.Lim) (k : Nat) : HQ (c.m k - aQ c.m k) 27 := @HQ.sub _ _ 13 13 (pE c hc k).hq (mE c hc k).hq
theorem wL {c : CR} (hc : c.Lim) {q : Rat} {n : Nat} (h : HQ q n) (k : Nat) : HQ (q - c.s k) (n + 5) := by
 have hb := kf hc k
 have hzb : Zb (c.S.getD k 0) := a8 hb.1 hb.2
 exact @HQ.sub _ _ n 4 h HQ.int
theorem sC {c : CR} (hc : c.Lim) {q : Rat} {n : Nat} (h : HQ q n) (k : Nat) : HQ (cB c.s c.m q k) (n + 32) := by
 rw [cB]
 split
 ·exact HQ.zero.mono (by omega)
 ·exact (@HQ.mul _ _ 27 (n + 5) (lJ hc k) (wL hc h k)).mono (by omega)
theorem nh {c : CR} (ha : ∀ k,k + 1 < c.S.length → c.s k < c.s (k + 1)) {f : Nat → Rat} {q : Rat} (hf : ∀ k,q - c.s k < 0 → f k = 0) {i : Nat} (hi : i ≤ c.S.length) (h : i = c.S.length ∨ (i < c.S.length ∧ q - c.s i < 0)) : ac f i = ac f c.S.length := by
 rcases h with h | ⟨h1,h2⟩
 ·rw [h]
 ·have key : ∀ m,i + m ≤ c.S.length → ac f (i + m) = ac f i ∧ (i + m < c.S.length → q - c.s (i + m) < 0) := by
   intro m
   induction m with
   |zero => intro _;exact ⟨rfl,fun _ => h2⟩
   |succ m ih =>
    intro hm
    obtain ⟨e1,e2⟩ := ih (by omega)
    have h3 := e2 (by omega)
    refine ⟨by rw [Nat.add_succ,ac,e1,hf _ h3];grind,fun hl => ?_⟩
    have h4 := ha (i + m) (by omega)
    rw [show i + (m + 1) = i + m + 1 by omega]
    grind
  have := (key (c.S.length - i) (by omega)).1
  rw [show i + (c.S.length - i) = c.S.length by omega] at this
  exact this.symm
theorem mM {c : CR} : ∀ (k i : Nat),da c i k = 0 → ∀ j,i ≤ j → j < i + k → dI c j = 0
 |0,i,_,j,h1,h2 => by omega
 |k + 1,i,h,j,h1,h2 => by
  rw [da] at h
  by_cases hs : dI c i = 0
  ·rw [if_pos hs] at h
   by_cases hj : j = i
   ·subst hj;exact hs
   ·exact mM k (i + 1) h j (by omega) (by omega)
  ·rw [if_neg hs] at h;exact absurd h hs
theorem cH {c : CR} (h : bV c = 0) : c.S.length ≤ 40 ∧ c.M.length = c.S.length ∧ (∀ k,k < c.S.length → -10000000 ≤ c.S.getD k 0 ∧ c.S.getD k 0 ≤ 10000000 ∧ 0 ≤ c.m k) ∧ ∀ k,k + 1 < c.S.length → c.s k < c.s (k + 1) := by
 rw [bV] at h
 split at h
 ·omega
 ·rename_i h1
  split at h
  ·omega
  ·rename_i h2
   have hs := mM _ _ h
   refine ⟨by omega,by omega,fun k hk => ?_,fun k hk => ?_⟩
   ·have := hs k (by omega) (by omega)
    rw [dI] at this
    split at this
    ·omega
    ·rename_i h3
     refine ⟨by omega,by omega,?_⟩
     rw [CR.m]
     have : ¬ (c.M.getD k RR.zero).val < 0 := fun h => h3 (.inr (.inr h))
     grind
   ·have := hs (k + 1) (by omega) (by omega)
    rw [dI] at this
    split at this
    ·omega
    ·split at this
     ·omega
     ·rename_i h4
      have h5 : c.S.getD k 0 < c.S.getD (k + 1) 0 := by
       rw [show k + 1 - 1 = k by omega] at h4
       omega
      rw [CR.s,CR.s]
      exact_mod_cast h5
theorem tj {c : CR} (h : bV c = 0) : Crv c.S.length c.s c.m := ⟨(cH h).2.2.2,fun k hk => ((cH h).2.2.1 k hk).2.2⟩
noncomputable def AX : Array Tmp × Code × Code := (j4 ((Tryz.f139.body).getD .skip)).getD (#[],.skip,.skip)
def sD (P : Program) (sc : St) (q0 q2 q3 g4 g7 b4 : Nat) (pa pb : Nat) (asg body : Code) (x2 x3 x1004 : Cont) (bf V0 V1 CH FA : RR) : Prop :=
 ∀ own : Nat → Nat × Option Cont,Fit { reg := fun _ => .raw undef,own := own } [] (zW q0 q2 q3 g4 g7 b4 (bE #[pa,pb] asg body .ready none sc.reg) x2 x3 x1004 bf V0) →
  ∀ kT : Exit → St → Prop,(∀ s2,Fit s2 [] (zW q0 q2 q3 g4 g7 b4 (bE #[pa,pb] asg body .busy none sc.reg) x2 x3 x1004 bf V1) → kT .normal s2) →
  PWP P lay.get asg (au (fun s2 => s2.own 2000 = (q0,some (bE #[pa,pb] asg body .ready none sc.reg)) ∧ PWP P lay.get body kT { reg := s2.reg,own := (s2.setOwn 2000 q0 (some (bE #[pa,pb] asg body .busy none sc.reg))).own }) (fun _ _ => False))
   { reg := mF [(pa,.agg (eR CH)),(pb,.agg (eR FA))] sc.reg,own := own }
set_option maxRecDepth 20000 in
theorem qA {s0 : St} {q0 q2 q3 g4 g7 b4 : Nat} {x2 x3 x1004 : Cont} {bf V0 V1 CH FA PR : RR} (hmul : Ret Tryz.prog .shared 105 [.agg (eR CH),.agg (eR FA)] (.agg (eR PR))) (hadd : Ret Tryz.prog .shared 106 [.agg (eR V0),.agg (eR PR)] (.agg (eR V1))) :
  sD Tryz.prog (s0.over [(7,.ptr 1007 g7 0 0)] []) q0 q2 q3 g4 g7 b4 20 21 AX.2.1 AX.2.2 x2 x3 x1004 bf V0 V1 CH FA := by
 intro own hf kT hPost
 have ho : own = (St.over { reg := fun _ => .raw undef,own := own } [] (zW q0 q2 q3 g4 g7 b4 (bE #[20,21] AX.2.1 AX.2.2 .ready none (s0.over [(7,.ptr 1007 g7 0 0)] []).reg) x2 x3 x1004 bf V0)).own := congrArg St.own (Fit.over hf).symm
 rw [ho]
 clear ho hf
 generalize (St.mk (fun _ => .raw undef) own) = s1
 repeat refine aa rfl ?_
 refine ⟨rfl,?_⟩
 repeat refine aa rfl ?_
 refine ah 5 [22,23,24,25,26] (by decide +kernel) ?_
 repeat refine aa rfl ?_
 refine ap rfl rfl rfl hmul rfl rfl ?_
 repeat refine aa rfl ?_
 refine ap rfl rfl rfl hadd rfl rfl ?_
 repeat refine aa rfl ?_
 exact hPost _ ⟨rfl,rfl,rfl,rfl,rfl,rfl,trivial⟩
set_option maxRecDepth 20000 in
theorem uF (c : CR) (hc : c.Lim) (h0 : bV c = 0) (y : RR) {q : Rat} {n : Nat} [hy : Vq y q n] (hn : n ≤ 100000) : Ret Tryz.prog .shared 139 [.agg (eC c),.agg (eR y)] (.tup [.agg (eR (ofQ (cz c.S.length c.s c.m q))),I 0]) := by
 have hcc := c_ c hc
 rw [h0] at hcc
 obtain ⟨h40,hSM,-,hasc⟩ := cH h0
 have hz := dl 0 (by decide) (by decide)
 rw [show (((0 : Int) : Rat)) = 0 from rfl] at hz
 have hsum : ∀ i,i ≤ 40 → Vq (ofQ (ac (cB c.s c.m q) i)) (ac (cB c.s c.m q) i) (i * (n + 1 + 32 + 1) + 4) := fun i _ => Vq.ofQ (h := bh i fun k _ => sC hc hy.hq k)
 refine Ret.of_pwpR layOk mixed Go.Proofs.Tryz.func139 rfl (by decide) rfl rfl rfl ?_
 repeat refine aa rfl ?_
 refine aY rfl rfl rfl hcc rfl rfl rfl ?_
 repeat refine aa rfl ?_
 refine ap rfl rfl rfl hz rfl rfl ?_
 (repeat ((fail_if_success (with_reducible refine aM 5 ?_));refine cF rfl ?_))
 refine aB (Ghost.move (k := 2) (k' := 1002) (t := 2) rfl rfl rfl rfl) ?_
 refine aB (Ghost.move (k := 3) (k' := 1003) (t := 3) rfl rfl rfl rfl) ?_
 refine aB (Ghost.move (k := 4) (k' := 1004) (t := 4) rfl rfl rfl rfl) ?_
 refine aB (Ghost.move (k := 7) (k' := 1007) (t := 7) rfl rfl rfl rfl) ?_
 ((repeat ((fail_if_success (with_reducible refine aM 5 ?_));refine cF rfl ?_));refine ay 2 ?_)
 iterate 2 refine aa rfl ?_
 refine aS ?_
 refine aI rfl (bB layOk rfl rfl Go.Proofs.Tryz.func162 rfl (by decide) rfl rfl ?_)
 (repeat ((fail_if_success (with_reducible refine aM 1 ?_));refine cF rfl ?_))
 refine aB (Ghost.move (k := 2) (k' := 2002) (t := 2) rfl rfl rfl rfl) ?_
 refine aB (Ghost.move (k := 3) (k' := 2003) (t := 3) rfl rfl rfl rfl) ?_
 repeat refine aa rfl ?_
 refine n7 rfl rfl ?_
 refine aD ?_
 repeat refine aa rfl ?_
 refine gR [(7,.ptr 1007 1 0 0),(4,.ptr 1004 1 0 0),(19,.clo 191 [.ptr 2002 1 0 0,.ptr 2003 1 0 0])] [(2002,1,⟨120,2,[eC c],2⟩),(2003,1,⟨26,4,[eR y],2⟩),(1004,1,⟨26,4,[[.bool false,.nil,.bool false,.nil]],2⟩),(1007,1,⟨26,4,[eR (ofQ 0)],2⟩)] ⟨rfl,rfl,rfl,rfl,rfl,rfl,rfl,trivial⟩ ?_
 intro s3
 refine p5 (ni (ps := #[20,21]) (asg := AX.2.1) (body := AX.2.2) 2000 rfl Go.Proofs.Tryz.func191 rfl rfl rfl rfl rfl rfl ?_)
 generalize hq0 : (s3.own 2000).1 + 1 = q0
 refine lR (q := q) (n := n) (q0 := q0) (q2 := 1) (q3 := 1) (g4 := 1) (g7 := 1) c hc y hy (by omega) hSM (fun i => ofQ (ac (cB c.s c.m q) i)) _ ⟨by rw [← hq0];rfl,rfl,rfl,rfl,rfl,trivial⟩ ?_ ?_
 ·intro i hi hpos b4 bf
  have hmul := eQ (ofQ (c.m i - aQ c.m i)) (ofQ (q - c.s i)) (hx := Vq.ofQ (h := lJ hc i)) (hy := Vq.ofQ (h := wL hc hy.hq i)) (by decide) (by omega)
  have hadd := dw (ofQ (ac (cB c.s c.m q) i)) (ofQ ((c.m i - aQ c.m i) * (q - c.s i))) (hx := hsum i (by omega)) (hy := Vq.ofQ (h := @HQ.mul _ _ 27 (n + 1 + 5) (lJ hc i) (wL hc hy.hq i))) (by have := Nat.mul_le_mul (show i ≤ 40 by omega) (show n + 1 + 32 + 1 ≤ 100034 by omega);omega) (by omega)
  rw [show ac (cB c.s c.m q) i + (c.m i - aQ c.m i) * (q - c.s i) = ac (cB c.s c.m q) (i + 1) by rw [ac,cB,if_neg hpos]] at hadd
  exact qA (s0 := s3.over [(4,.ptr 1004 1 0 0),(19,.clo 191 [.ptr 2002 1 0 0,.ptr 2003 1 0 0])] []) hmul hadd
 ·intro i hi hor b4 bf s2 hf
  have hres : ac (cB c.s c.m q) i = cz c.S.length c.s c.m q := nh hasc (fun k hk => by rw [cB,if_pos hk]) hi hor
  dsimp only at hf
  rw [hres] at hf
  rw [← Fit.over (l := []) hf]
  repeat refine aa rfl ?_
  exact aK rfl rfl rfl
namespace Bd
variable {b : Bd}
def gr (b : Bd) (p : Nat → Nat) (i : Nat) : Rat := b.X i - b.Kc p / b.Kh p
theorem zC {p : Nat → Nat} (hK : b.Kh p ≠ 0) (t t' : Rat) (i : Nat) : b.y (b.ln p t') t' i = b.y (b.ln p t) t i + b.gr p i * (t' - t) := by
 rw [y,y,ln,ln,gr];grind
def Cross (b : Bd) (p : Nat → Nat) (t : Rat) : Prop := ∃ i,i < b.N ∧ ∃ k,k < b.n i ∧ b.y (b.ln p t) t i = b.S i k ∧ b.gr p i ≠ 0
def det (b : Bd) (p : Nat → Nat) : Rat := b.Kh p * b.Kp p - b.Kc p * b.Kc p
def Tm (b : Bd) (t : Rat) : Prop := ∃ p : Nat → Nat,(∀ i,i < b.N → p i ≤ b.n i) ∧ b.Kh p ≠ 0 ∧ (b.Cross p t ∨ (b.eln p t = 0 ∧ b.det p ≠ 0))
theorem yI {n : Nat} {S : Nat → Rat} {p : Nat} {y0 y1 : Rat} (h : uO n S p y0) : ∃ s : Rat,0 ≤ s ∧ s ≤ 1 ∧ (∀ s',0 ≤ s' → s' ≤ s → uO n S p (y0 + s' * (y1 - y0))) ∧ (s = 1 ∨ ∃ k,k < n ∧ y0 + s * (y1 - y0) = S k ∧ y1 ≠ y0) := by
 obtain ⟨h1,h2,h3⟩ := h
 by_cases hu : p < n ∧ S p < y1
 ·have h4 := h3 hu.1
  have hd : 0 < y1 - y0 := by grind
  have hne : y1 - y0 ≠ 0 := by grind
  have hs : (S p - y0) / (y1 - y0) * (y1 - y0) = S p - y0 := Rat.div_mul_cancel hne
  refine ⟨(S p - y0) / (y1 - y0),?_,?_,fun s' g1 g2 => ⟨h1,fun k hk => ?_,fun _ => ?_⟩,.inr ⟨p,hu.1,by grind,by grind⟩⟩
  ·rw [Rat.div_def];exact Rat.mul_nonneg (by grind) (Rat.le_of_lt (Rat.inv_pos.2 hd))
  ·by_cases hc : (S p - y0) / (y1 - y0) ≤ 1
   ·exact hc
   ·have := Rat.mul_pos (show 0 < (S p - y0) / (y1 - y0) - 1 by grind) hd
    grind
  ·have := h2 k hk
   have := Rat.mul_nonneg g1 (Rat.le_of_lt hd)
   grind
  ·have := Rat.mul_nonneg (show 0 ≤ (S p - y0) / (y1 - y0) - s' by grind) (Rat.le_of_lt hd)
   grind
 ·by_cases hl : ∃ k,p = k + 1 ∧ y1 < S k
  ·obtain ⟨k,rfl,hk⟩ := hl
   have h4 := h2 k rfl
   have hd : 0 < y0 - y1 := by grind
   have hne : y0 - y1 ≠ 0 := by grind
   have hs : (y0 - S k) / (y0 - y1) * (y0 - y1) = y0 - S k := Rat.div_mul_cancel hne
   refine ⟨(y0 - S k) / (y0 - y1),?_,?_,fun s' g1 g2 => ⟨h1,fun k' hk' => ?_,fun hn => ?_⟩,.inr ⟨k,by omega,by grind,by grind⟩⟩
   ·rw [Rat.div_def];exact Rat.mul_nonneg (by grind) (Rat.le_of_lt (Rat.inv_pos.2 hd))
   ·by_cases hc : (y0 - S k) / (y0 - y1) ≤ 1
    ·exact hc
    ·have := Rat.mul_pos (show 0 < (y0 - S k) / (y0 - y1) - 1 by grind) hd
     grind
   ·obtain rfl : k = k' := by omega
    have := Rat.mul_nonneg (show 0 ≤ (y0 - S k) / (y0 - y1) - s' by grind) (Rat.le_of_lt hd)
    grind
   ·have := h3 hn
    have := Rat.mul_nonneg g1 (Rat.le_of_lt hd)
    grind
  ·refine ⟨1,by decide,Rat.le_refl,fun s' g1 g2 => ⟨h1,fun k hk => ?_,fun hn => ?_⟩,.inl rfl⟩
   ·have h4 := h2 k hk
    have h5 : ¬ y1 < S k := fun hh => hl ⟨k,hk,hh⟩
    have h6 := Rat.mul_nonneg g1 (show 0 ≤ y1 - S k by grind)
    have h7 := Rat.mul_nonneg (show 0 ≤ 1 - s' by grind) (show 0 ≤ y0 - S k by grind)
    grind
   ·have h4 := h3 hn
    have h5 : ¬ S p < y1 := fun hh => hu ⟨hn,hh⟩
    have h6 := Rat.mul_nonneg g1 (show 0 ≤ S p - y1 by grind)
    have h7 := Rat.mul_nonneg (show 0 ≤ 1 - s' by grind) (show 0 ≤ S p - y0 by grind)
    grind
theorem B9 {p : Nat → Nat} {t0 : Rat} (hK : b.Kh p ≠ 0) (h0 : b.Inc p (b.ln p t0) t0) (t1 : Rat) :
  ∃ s : Rat,0 ≤ s ∧ s ≤ 1 ∧ (∀ s',0 ≤ s' → s' ≤ s → b.Inc p (b.ln p (t0 + s' * (t1 - t0))) (t0 + s' * (t1 - t0))) ∧ (s = 1 ∨ b.Cross p (t0 + s * (t1 - t0))) := by
 have hy : ∀ s i,b.y (b.ln p (t0 + s * (t1 - t0))) (t0 + s * (t1 - t0)) i = b.y (b.ln p t0) t0 i + s * (b.y (b.ln p t1) t1 i - b.y (b.ln p t0) t0 i) := by
  intro s i
  rw [zC hK t0 (t0 + s * (t1 - t0)),zC hK t0 t1];grind
 have key : ∀ m,m ≤ b.N → ∃ s : Rat,0 ≤ s ∧ s ≤ 1 ∧ (∀ s',0 ≤ s' → s' ≤ s → ∀ i,i < m → uO (b.n i) (b.S i) (p i) (b.y (b.ln p (t0 + s' * (t1 - t0))) (t0 + s' * (t1 - t0)) i)) ∧ (s = 1 ∨ b.Cross p (t0 + s * (t1 - t0))) := by
  intro m
  induction m with
  |zero => exact fun _ => ⟨1,by decide,Rat.le_refl,fun _ _ _ i hi => by omega,.inl rfl⟩
  |succ m ih =>
   intro hm
   obtain ⟨s,g1,g2,g3,g4⟩ := ih (by omega)
   obtain ⟨s2,k1,k2,k3,k4⟩ := yI (y1 := b.y (b.ln p t1) t1 m) (h0 m (by omega))
   by_cases hs : s ≤ s2
   ·refine ⟨s,g1,g2,fun s' q1 q2 i hi => ?_,g4⟩
    by_cases he : i < m
    ·exact g3 s' q1 q2 i he
    ·obtain rfl : i = m := by omega
     rw [hy];exact k3 s' q1 (by grind)
   ·refine ⟨s2,k1,k2,fun s' q1 q2 i hi => ?_,?_⟩
    ·by_cases he : i < m
     ·exact g3 s' q1 (by grind) i he
     ·obtain rfl : i = m := by omega
      rw [hy];exact k3 s' q1 q2
    ·rcases k4 with k4 | ⟨k,q1,q2,q3⟩
     ·exact .inl k4
     ·refine .inr ⟨m,by omega,k,q1,by rw [hy];exact q2,fun hg => ?_⟩
      have := zC hK t0 t1 m
      rw [hg] at this
      exact q3 (by grind)
 exact key b.N (Nat.le_refl _)
theorem lj {p : Nat → Nat} (hK : b.Kh p ≠ 0) (t t' : Rat) : (b.eln p t' - b.eln p t) * b.Kh p = b.det p * (t' - t) := by
 rw [eln,eln,ln,ln,det];grind
theorem sW {p : Nat → Nat} (hK : 0 < b.Kh p) {t0 t1 : Rat} (h0 : b.eln p t0 < 0) (h1 : 0 ≤ b.eln p t1) : ∃ s : Rat,0 < s ∧ s ≤ 1 ∧ b.eln p (t0 + s * (t1 - t0)) = 0 ∧ b.det p ≠ 0 := by
 have hne : b.Kh p ≠ 0 := by grind
 have hl := lj hne t0 t1
 have hd : 0 < b.eln p t1 - b.eln p t0 := by grind
 have hd' : b.eln p t1 - b.eln p t0 ≠ 0 := by grind
 have hdet : b.det p ≠ 0 := by
  intro h
  rw [h] at hl
  have := Rat.mul_pos hd hK
  grind
 have hs : (-b.eln p t0) / (b.eln p t1 - b.eln p t0) * (b.eln p t1 - b.eln p t0) = -b.eln p t0 := Rat.div_mul_cancel hd'
 generalize (-b.eln p t0) / (b.eln p t1 - b.eln p t0) = s at *
 refine ⟨s,?_,?_,?_,hdet⟩
 ·by_cases hc : 0 < s
  ·exact hc
  ·have := Rat.mul_nonneg (show 0 ≤ -s by grind) (Rat.le_of_lt hd)
   grind
 ·by_cases hc : s ≤ 1
  ·exact hc
  ·have := Rat.mul_pos (show 0 < s - 1 by grind) hd
   grind
 ·have h2 := lj hne t0 (t0 + s * (t1 - t0))
  have h3 : (b.eln p (t0 + s * (t1 - t0)) - b.eln p t0 - s * (b.eln p t1 - b.eln p t0)) * b.Kh p = 0 := by grind
  rcases Rat.mul_eq_zero.1 h3 with h4 | h4
  ·grind
  ·exact absurd h4 hne
theorem vS (h : b.Ok) {lo hi zl zh : Rat} (hlt : lo < hi) (ll : b.Least zl lo) (lh : b.Least zh hi) (el : b.e zl lo < 0) (eh : 0 < b.e zh hi)
  (sep : ∀ t t',b.Tm t → b.Tm t' → lo ≤ t → t ≤ hi → lo ≤ t' → t' ≤ hi → t = t') {p : Nat → Nat} (hp : b.Inl p zl lo) :
  ∃ t,b.Bal (b.ln p t) t ∧ b.eln p t = 0 ∧ b.det p ≠ 0 := by
 have hK := ll.K h hp
 have hne : b.Kh p ≠ 0 := by grind
 have hzl := ln_at h ll.1 hp.c hK
 have hpc := hp.c
 rw [hzl] at hpc
 have el' : b.eln p lo < 0 := by rw [← vF h hpc,← hzl];exact el
 obtain ⟨s,g1,g2,g3,g4⟩ := B9 hne hpc hi
 have g5 := g3 s g1 Rat.le_refl
 have hFb : ∀ t,b.Inc p (b.ln p t) t → b.eln p t = 0 → b.Bal (b.ln p t) t := fun t h1 h2 => by
  refine ⟨x7 h h1 hK,?_⟩
  have := vF h h1
  rw [h2,e] at this;grind
 have hple : ∀ i,i < b.N → p i ≤ b.n i := fun i hi => (hp i hi).1
 by_cases hz : 0 ≤ b.eln p (lo + s * (hi - lo))
 ·obtain ⟨r,k1,k2,k3,k4⟩ := sW hK el' hz
  refine ⟨_,hFb _ ?_ k3,k3,k4⟩
  rw [show lo + r * (lo + s * (hi - lo) - lo) = lo + r * s * (hi - lo) by grind]
  refine g3 _ (Rat.mul_nonneg (by grind) g1) ?_
  have := Rat.mul_nonneg (show 0 ≤ 1 - r by grind) g1
  grind
 ·exfalso
  generalize ht1 : lo + s * (hi - lo) = t1 at *
  have hin1 : lo ≤ t1 ∧ t1 ≤ hi := by
   have := Rat.mul_nonneg g1 (show 0 ≤ hi - lo by grind)
   have := Rat.mul_nonneg (show 0 ≤ 1 - s by grind) (show 0 ≤ hi - lo by grind)
   grind
  have he1 : b.e (b.ln p t1) t1 < 0 := by rw [vF h g5];grind
  have hF1 := x7 h g5 hK
  have hT1 : b.Tm t1 := by
   rcases g4 with g4 | g4
   ·exfalso
    have : t1 = hi := by rw [← ht1,g4];grind
    rw [this] at he1 hF1
    have := xe h (hF1.trans lh.1.symm)
    rw [e] at he1 eh
    grind
   ·exact ⟨p,hple,hne,.inl g4⟩
  obtain ⟨q,hq⟩ := r7 h zh hi
  have hKq := lh.K h hq
  have hneq : b.Kh q ≠ 0 := by grind
  have hzh := ln_at h lh.1 hq.c hKq
  have hqc := hq.c
  rw [hzh] at hqc
  have eh' : 0 < b.eln q hi := by rw [← vF h hqc,← hzh];exact eh
  have hqle : ∀ i,i < b.N → q i ≤ b.n i := fun i hi => (hq i hi).1
  obtain ⟨r,k1,k2,k3,k4⟩ := B9 hneq hqc lo
  generalize ht2 : hi + r * (lo - hi) = t2 at *
  have hin2 : lo ≤ t2 ∧ t2 ≤ hi := by
   have := Rat.mul_nonneg k1 (show 0 ≤ hi - lo by grind)
   have := Rat.mul_nonneg (show 0 ≤ 1 - r by grind) (show 0 ≤ hi - lo by grind)
   grind
  have hle : t2 ≤ t1 := by
   rcases k4 with k4 | k4
   ·have : t2 = lo := by rw [← ht2,k4];grind
    grind
   ·have := sep t1 t2 hT1 ⟨q,hqle,hneq,.inl k4⟩ hin1.1 hin1.2 hin2.1 hin2.2
    grind
  have hw : 0 < hi - lo := by grind
  have hwn : hi - lo ≠ 0 := by grind
  have hs' : (hi - t1) / (hi - lo) * (hi - lo) = hi - t1 := Rat.div_mul_cancel hwn
  have hq1 : b.Inc q (b.ln q t1) t1 := by
   have := k3 ((hi - t1) / (hi - lo)) ?_ ?_
   ·rwa [show hi + (hi - t1) / (hi - lo) * (lo - hi) = t1 by grind] at this
   ·rw [Rat.div_def];exact Rat.mul_nonneg (by grind) (Rat.le_of_lt (Rat.inv_pos.2 hw))
   ·by_cases hc : (hi - t1) / (hi - lo) ≤ r
    ·exact hc
    ·have := Rat.mul_pos (show 0 < (hi - t1) / (hi - lo) - r by grind) hw
     grind
  have hF2 := x7 h hq1 hKq
  have heq : b.eln q t1 < 0 := by
   rw [← vF h hq1]
   have := xe h (hF1.trans hF2.symm)
   rw [e] at he1 ⊢
   grind
  obtain ⟨u,q1,q2,q3,q4⟩ := sW hKq heq (Rat.le_of_lt eh')
  have hT3 : b.Tm (t1 + u * (hi - t1)) := ⟨q,hqle,hneq,.inr ⟨q3,q4⟩⟩
  have hth : t1 < hi := by
   by_cases hc : t1 = hi
   ·rw [hc] at heq;grind
   ·grind
  have hu := Rat.mul_pos q1 (show 0 < hi - t1 by grind)
  have hu2 := Rat.mul_nonneg (show 0 ≤ 1 - u by grind) (show 0 ≤ hi - t1 by grind)
  have := sep t1 _ hT1 hT3 hin1.1 hin1.2 (by grind) (by grind)
  grind
end Bd
namespace Bd
variable {b : Bd}
def lim (b : Bd) (i : Nat) : Prop := aQ (b.M i) (b.n i) = 0
def cap (b : Bd) (i : Nat) : Rat := k_ (b.n i) (b.S i) (b.M i)
theorem k6 (x z : Rat) : ∃ u : Rat,0 ≤ u ∧ x ≤ u ∧ z ≤ u := ⟨c9 x + c9 z,by simp only [c9];grind,by simp only [c9];grind,by simp only [c9];grind⟩
theorem gL {g c B : Rat} (hg : 0 < g) : ∃ u0 : Rat,∀ u,u0 ≤ u → B ≤ c + g * u := by
 refine ⟨(B - c) / g,fun u hu => ?_⟩
 have h1 : (B - c) / g * g = B - c := Rat.div_mul_cancel (by grind)
 have := Rat.mul_nonneg (show 0 ≤ u - (B - c) / g by grind) (Rat.le_of_lt hg)
 grind
theorem Ce (h : b.Ok) {s z t : Rat} (hs : s = 1 ∨ s = -1) (hl : b.Least z t) (he : s * b.e z t < 0) (hT : ∀ t',b.Tm t' → 0 < s * (t - t')) :
  ∃ i0,i0 < b.N ∧ (∀ i,i < b.N → 0 < s * (b.X i - b.X i0) → b.lim i) ∧ ac (fun i => if 0 < s * (b.X i - b.X i0) then b.cap i * (s * (b.X i - b.X i0)) else 0) b.N < b.w * (s * (b.A - b.X i0)) := by
 obtain ⟨p,hp⟩ := r7 h z t
 have hK := hl.K h hp
 have hne : b.Kh p ≠ 0 := by grind
 have hz := ln_at h hl.1 hp.c hK
 have hpc := hp.c
 rw [hz] at hpc
 have hple : ∀ i,i < b.N → p i ≤ b.n i := fun i hi => (hp i hi).1
 have hss : s * s = 1 := by rcases hs with rfl | rfl <;> grind
 have hall : ∀ u : Rat,0 ≤ u → b.Inc p (b.ln p (t + s * u)) (t + s * u) := by
  intro u hu
  obtain ⟨r,g1,g2,g3,g4⟩ := B9 hne hpc (t + s * u)
  rcases g4 with rfl | g4
  ·have := g3 1 (by decide) Rat.le_refl
   rwa [show t + 1 * (t + s * u - t) = t + s * u by grind] at this
  ·have := hT _ ⟨p,hple,hne,.inl g4⟩
   have h2 := Rat.mul_nonneg g1 hu
   exfalso
   have : s * (t - (t + r * (t + s * u - t))) = -(r * u) * (s * s) := by grind
   rw [hss] at this
   grind
 have hyu : ∀ (u : Rat) i,b.y (b.ln p (t + s * u)) (t + s * u) i = b.y (b.ln p t) t i + (s * b.gr p i) * u := fun u i => by rw [zC hne t];grind
 have hfle : ∀ (u : Rat) i,0 ≤ u → i < b.N → b.k p i * (b.y (b.ln p t) t i + (s * b.gr p i) * u) - b.o p i ≤ b.w := by
  intro u i hu hi
  have h1 := hall u hu
  rw [← hyu,← yt h h1 hi,← x7 h h1 hK]
  exact fp (f := b.f (b.ln p (t + s * u)) (t + s * u)) (fun k hk => Ax h hk) hi
 have hup : ∀ i,i < b.N → 0 < s * b.gr p i → p i = b.n i ∧ b.k p i = 0 := by
  intro i hi hg
  have hk0 : b.k p i = 0 := by
   rcases Classical.em (0 < b.k p i) with hk | hk
   ·exfalso
    obtain ⟨u0,hu0⟩ := gL (g := b.k p i * (s * b.gr p i)) (c := b.k p i * b.y (b.ln p t) t i - b.o p i) (B := b.w + 1) (Rat.mul_pos hk hg)
    obtain ⟨u,h1,h2,_⟩ := k6 u0 0
    have := hu0 u h2
    have := hfle u i h1 hi
    grind
   ·have := AB h hpc hi;grind
  refine ⟨?_,hk0⟩
  rcases Nat.lt_or_ge (p i) (b.n i) with hlt | hge
  ·exfalso
   obtain ⟨u0,hu0⟩ := gL (g := s * b.gr p i) (c := b.y (b.ln p t) t i) (B := b.S i (p i) + 1) hg
   obtain ⟨u,h1,h2,_⟩ := k6 u0 0
   have h3 := hu0 u h2
   have h4 := ((hall u h1) i hi).2.2 hlt
   rw [hyu] at h4
   grind
  ·have := hple i hi;omega
 have hdown : ∀ i,i < b.N → s * b.gr p i < 0 → p i = 0 := by
  intro i hi hg
  cases hpi : p i with
  |zero => rfl
  |succ k =>
   exfalso
   obtain ⟨u0,hu0⟩ := gL (g := -(s * b.gr p i)) (c := -(b.y (b.ln p t) t i)) (B := -(b.S i k) + 1) (by grind)
   obtain ⟨u,h1,h2,_⟩ := k6 u0 0
   have h3 := hu0 u h2
   have h4 := ((hall u h1) i hi).2.1 k hpi
   rw [hyu] at h4
   grind
 obtain ⟨i0,hi0,hk0⟩ := xF hK fun i hi => AB h hpc hi
 have hg0 : b.gr p i0 = 0 := by
  rcases Classical.em (0 < s * b.gr p i0) with hc | hc
  ·have := (hup i0 hi0 hc).2;grind
  ·rcases Classical.em (s * b.gr p i0 < 0) with hd | hd
   ·have := hdown i0 hi0 hd
    rw [k,this,aQ] at hk0;grind
   ·have h1 : s * b.gr p i0 = 0 := by grind
    have : s * s * b.gr p i0 = 0 := by rw [Rat.mul_assoc,h1,Rat.mul_zero]
    rw [hss] at this;grind
 have hX : ∀ i,b.gr p i = b.X i - b.X i0 := fun i => by
  have := hg0
  rw [gr] at this ⊢
  grind
 refine ⟨i0,hi0,fun i hi hc => ?_,?_⟩
 ·rw [← hX] at hc
  obtain ⟨h1,h2⟩ := hup i hi hc
  rw [lim,← h1];exact h2
 ·have hsum : ac (fun i => if 0 < s * (b.X i - b.X i0) then b.cap i * (s * (b.X i - b.X i0)) else 0) b.N = s * (b.G z t - b.w * b.X i0) := by
   have h1 : ∀ i,i < b.N → (if 0 < s * (b.X i - b.X i0) then b.cap i * (s * (b.X i - b.X i0)) else 0) = (b.f z t i * b.X i - b.f z t i * b.X i0) * s := by
    intro i hi
    rcases Classical.em (0 < s * (b.X i - b.X i0)) with hc | hc
    ·rw [if_pos hc]
     rw [← hX] at hc
     obtain ⟨g1,g2⟩ := hup i hi hc
     have h2 := hp.c i hi
     rw [g1] at h2
     have h3 := mr (h.crv i hi) h2 (by rw [← g1];exact g2)
     rw [cap,← h3,f];grind
    ·rw [if_neg hc]
     rcases Classical.em (s * (b.X i - b.X i0) < 0) with hd | hd
     ·rw [← hX] at hd
      have h2 := hp.c i hi
      rw [hdown i hi hd] at h2
      have h3 := uE (h.crv i hi) h2
      rw [f,h3];grind
     ·have h2 : s * (b.X i - b.X i0) = 0 := by grind
      have : (b.f z t i * b.X i - b.f z t i * b.X i0) * s = b.f z t i * (s * (b.X i - b.X i0)) := by grind
      rw [this,h2];grind
   rw [aT h1,gC]
   have h2 : ac (fun i => b.f z t i * b.X i - b.f z t i * b.X i0) b.N = b.G z t - b.F z t * b.X i0 := by
    have := mc (f := fun i => b.f z t i * b.X i) (g := fun i => b.f z t i * (-b.X i0)) (n := b.N)
    rw [gC (f := b.f z t)] at this
    rw [G,F]
    have h3 : ac (fun i => b.f z t i * b.X i - b.f z t i * b.X i0) b.N = ac (fun i => b.f z t i * b.X i + b.f z t i * (-b.X i0)) b.N := aT fun i _ => by grind
    rw [h3,this];grind
   rw [h2,hl.1];grind
  rw [hsum]
  rw [e] at he
  grind
end Bd
def InR (n : Nat) (S : Nat → Rat) (p : Nat) (y : Rat) : Prop := p ≤ n ∧ (∀ k,p = k + 1 → S k ≤ y) ∧ (p < n → y < S p)
section
variable {n : Nat} {S M : Nat → Rat} {y : Rat} {p : Nat}
theorem InR.c (h : InR n S p y) : uO n S p y := ⟨h.1,h.2.1,fun hp => by have := h.2.2 hp;grind⟩
theorem InR.some (h : Crv n S M) (y : Rat) : ∀ (m : Nat),m ≤ n → ∃ p,p ≤ m ∧ (∀ k,p = k + 1 → S k ≤ y) ∧ (p < m → y < S p)
 |0,_ => ⟨0,Nat.le_refl _,fun k hk => by omega,fun hk => by omega⟩
 |m + 1,hm => by
  by_cases hy : S m ≤ y
  ·exact ⟨m + 1,Nat.le_refl _,fun k hk => by have : k = m := by omega
                                             subst this;exact hy,fun hk => by omega⟩
  ·obtain ⟨p,h1,h2,h3⟩ := InR.some h y m (by omega)
   refine ⟨p,by omega,h2,fun _ => ?_⟩
   by_cases hp : p < m
   ·exact h3 hp
   ·have : p = m := by omega
    subst this;grind
theorem InR.get (h : Crv n S M) (y : Rat) : ∃ p,InR n S p y := InR.some h y n (Nat.le_refl _)
theorem lr (h : Crv n S M) (hp : InR n S p y) : ∃ e : Rat,0 < e ∧ ∀ d,0 ≤ d → d ≤ e → cz n S M (y + d) = cz n S M y + aQ M p * d := by
 obtain ⟨e,h1,h2⟩ : ∃ e : Rat,0 < e ∧ (p < n → y + e ≤ S p) := by
  by_cases hn : p < n
  ·have := hp.2.2 hn
   exact ⟨S p - y,by grind,fun _ => by grind⟩
  ·exact ⟨1,by decide,fun h => absurd h hn⟩
 refine ⟨e,h1,fun d h3 h4 => ?_⟩
 rw [dr h hp.c,dr h (p := p) (y := y + d) ⟨hp.1,fun k hk => by have := hp.2.1 k hk;grind,fun hn => by have := h2 hn;grind⟩]
 grind
theorem mQ (h : Crv n S M) (hp : InL n S p y) : ∃ e : Rat,0 < e ∧ ∀ d,0 ≤ d → d ≤ e → cz n S M (y - d) = cz n S M y - aQ M p * d := by
 obtain ⟨e,h1,h2⟩ : ∃ e : Rat,0 < e ∧ ∀ k,p = k + 1 → S k ≤ y - e := by
  cases p with
  |zero => exact ⟨1,by decide,fun k hk => by omega⟩
  |succ k =>
   have := hp.2.1 k rfl
   refine ⟨y - S k,by grind,fun k' hk' => ?_⟩
   obtain rfl : k = k' := by omega
   grind
 refine ⟨e,h1,fun d h3 h4 => ?_⟩
 rw [dr h hp.c,dr h (p := p) (y := y - d) ⟨hp.1,fun k hk => by have := h2 k hk;grind,fun hn => by have := hp.2.2 hn;grind⟩]
 grind
theorem qg (h : Crv n S M) (hp : InR n S p y) {v : Rat} (hv : 0 < v) (he : cz n S M (y + v) = cz n S M y) : aQ M p = 0 := by
 obtain ⟨e,h1,h2⟩ := lr h hp
 have h3 : 0 < eP e v ∧ eP e v ≤ e ∧ eP e v ≤ v := by simp only [eP];grind
 generalize eP e v = d at h3
 have h4 := h2 d (by grind) h3.2.1
 have h5 := fq h (x := y + d) (z := y + v) (by grind)
 have h6 := nQ h hp.1
 have h7 := Rat.mul_nonneg h6 (show 0 ≤ d by grind)
 have h8 : aQ M p * d = 0 := by grind
 rcases Rat.mul_eq_zero.1 h8 with h9 | h9
 ·exact h9
 ·grind
theorem ry (h : Crv n S M) (hp : InL n S p y) {v : Rat} (hv : v < 0) (he : cz n S M (y + v) = cz n S M y) : aQ M p = 0 := by
 obtain ⟨e,h1,h2⟩ := mQ h hp
 have h3 : 0 < eP e (-v) ∧ eP e (-v) ≤ e ∧ eP e (-v) ≤ -v := by simp only [eP];grind
 generalize eP e (-v) = d at h3
 have h4 := h2 d (by grind) h3.2.1
 have h5 := fq h (x := y + v) (z := y - d) (by grind)
 have h6 := nQ h hp.1
 have h7 := Rat.mul_nonneg h6 (show 0 ≤ d by grind)
 have h8 : aQ M p * d = 0 := by grind
 rcases Rat.mul_eq_zero.1 h8 with h9 | h9
 ·exact h9
 ·grind
end
namespace Bd
variable {b : Bd}
def Free (b : Bd) (z t A B : Rat) : Prop := ∀ i,i < b.N → (0 < A + B * b.X i → ∀ p,InR (b.n i) (b.S i) p (b.y z t i) → aQ (b.M i) p = 0) ∧ (A + B * b.X i < 0 → ∀ p,InL (b.n i) (b.S i) p (b.y z t i) → aQ (b.M i) p = 0)
def Dir (b : Bd) (A B : Rat) : Prop := (A = 1 ∧ B = 0) ∨ (A = -1 ∧ B = 0) ∨ ∃ i,i < b.N ∧ ((A = -b.X i ∧ B = 1) ∨ (A = b.X i ∧ B = -1))
theorem xW (z t A B s : Rat) (i : Nat) : b.y (z + s * A) (t + s * B) i = b.y z t i + s * (A + B * b.X i) := by rw [y,y];grind
theorem By (h : b.Ok) {z t A B : Rat} (hf : b.Free z t A B) : ∃ s : Rat,0 < s ∧ ∀ i,i < b.N → b.f (z + s * A) (t + s * B) i = b.f z t i := by
 have key : ∀ m,m ≤ b.N → ∃ s : Rat,0 < s ∧ ∀ s',0 ≤ s' → s' ≤ s → ∀ i,i < m → b.f (z + s' * A) (t + s' * B) i = b.f z t i := by
  intro m
  induction m with
  |zero => exact fun _ => ⟨1,by decide,fun _ _ _ i hi => by omega⟩
  |succ m ih =>
   intro hm
   obtain ⟨s,h1,h2⟩ := ih (by omega)
   have hc := h.crv m (by omega)
   obtain ⟨s2,h3,h4⟩ : ∃ s2 : Rat,0 < s2 ∧ ∀ s',0 ≤ s' → s' ≤ s2 → b.f (z + s' * A) (t + s' * B) m = b.f z t m := by
    rcases Classical.em (0 < A + B * b.X m) with hv | hv
    ·obtain ⟨p,hp⟩ := InR.get hc (b.y z t m)
     have h0 := (hf m (by omega)).1 hv p hp
     obtain ⟨e,g1,g2⟩ := lr hc hp
     have hq : e / (A + B * b.X m) * (A + B * b.X m) = e := Rat.div_mul_cancel (by grind)
     refine ⟨e / (A + B * b.X m),by rw [Rat.div_def];exact Rat.mul_pos g1 (Rat.inv_pos.2 hv),fun s' k1 k2 => ?_⟩
     have k3 := Rat.mul_nonneg k1 (Rat.le_of_lt hv)
     have k4 := Rat.mul_nonneg (show 0 ≤ e / (A + B * b.X m) - s' by grind) (Rat.le_of_lt hv)
     rw [f,f,xW,g2 _ k3 (by grind),h0];grind
    ·rcases Classical.em (A + B * b.X m < 0) with hv' | hv'
     ·obtain ⟨p,hp⟩ := InL.get hc (b.y z t m)
      have h0 := (hf m (by omega)).2 hv' p hp
      obtain ⟨e,g1,g2⟩ := mQ hc hp
      have hvp : 0 < -(A + B * b.X m) := by grind
      have hq : e / (-(A + B * b.X m)) * (-(A + B * b.X m)) = e := Rat.div_mul_cancel (by grind)
      refine ⟨e / (-(A + B * b.X m)),by rw [Rat.div_def];exact Rat.mul_pos g1 (Rat.inv_pos.2 hvp),fun s' k1 k2 => ?_⟩
      have k3 := Rat.mul_nonneg k1 (Rat.le_of_lt hvp)
      have k4 := Rat.mul_nonneg (show 0 ≤ e / (-(A + B * b.X m)) - s' by grind) (Rat.le_of_lt hvp)
      have k5 := g2 (s' * (-(A + B * b.X m))) k3 (by grind)
      rw [f,f,xW,show b.y z t m + s' * (A + B * b.X m) = b.y z t m - s' * (-(A + B * b.X m)) by grind,k5,h0];grind
     ·have h0 : A + B * b.X m = 0 := by grind
      refine ⟨1,by decide,fun s' _ _ => ?_⟩
      rw [f,f,xW,h0];congr 1;grind
   refine ⟨eP s s2,by simp only [eP];grind,fun s' k1 k2 i hi => ?_⟩
   have k3 : s' ≤ s ∧ s' ≤ s2 := by simp only [eP] at k2;grind
   by_cases he : i < m
   ·exact h2 s' k1 k3.1 i he
   ·obtain rfl : i = m := by omega
    exact h4 s' k1 k3.2
 obtain ⟨s,h1,h2⟩ := key b.N (Nat.le_refl _)
 exact ⟨s,h1,fun i hi => h2 s (by grind) Rat.le_refl i hi⟩
theorem bal_of_f (_h : b.Ok) {z t z' t' : Rat} (hb : b.Bal z t) (hf : ∀ i,i < b.N → b.f z' t' i = b.f z t i) : b.Bal z' t' :=
 ⟨by rw [← hb.1];exact aT hf,by rw [← hb.2];exact aT fun i hi => by rw [hf i hi]⟩
theorem Bal.f_eq (h : b.Ok) {z t z' t' : Rat} (h1 : b.Bal z t) (h2 : b.Bal z' t') {i : Nat} (hi : i < b.N) : b.f z t i = b.f z' t' i := kg h (h1.1.trans h2.1.symm) (.inl (h1.2.trans h2.2.symm)) hi
theorem fB {P : Nat → Prop} (g : Nat → Rat) : ∀ n,(∃ i,i < n ∧ P i) → ∃ i,i < n ∧ P i ∧ ∀ j,j < n → P j → g i ≤ g j
 |0,⟨i,hi,_⟩ => by omega
 |n + 1,⟨i,hi,hp⟩ => by
  rcases Classical.em (∃ i,i < n ∧ P i) with hx | hx
  ·obtain ⟨k,h1,h2,h3⟩ := fB g n hx
   rcases Classical.em (P n ∧ g n < g k) with hn | hn
   ·refine ⟨n,by omega,hn.1,fun j hj hpj => ?_⟩
    by_cases he : j < n
    ·have := h3 j he hpj;grind
    ·obtain rfl : j = n := by omega
     exact Rat.le_refl
   ·refine ⟨k,by omega,h2,fun j hj hpj => ?_⟩
    by_cases he : j < n
    ·exact h3 j he hpj
    ·obtain rfl : j = n := by omega
     have : ¬ g j < g k := fun h => hn ⟨hpj,h⟩
     grind
  ·have he : i = n := by
    rcases Nat.lt_or_ge i n with h | h
    ·exact absurd ⟨i,h,hp⟩ hx
    ·omega
   subst he
   refine ⟨i,by omega,hp,fun j hj hpj => ?_⟩
   by_cases he : j < i
   ·exact absurd ⟨j,he,hpj⟩ hx
   ·obtain rfl : j = i := by omega
    exact Rat.le_refl
theorem loose_iff (h : b.Ok) {z t : Rat} (hb : b.Bal z t) : (∃ A B,b.Dir A B ∧ b.Free z t A B) ↔ ∃ z' t',b.Bal z' t' ∧ (z' ≠ z ∨ t' ≠ t) := by
 constructor
 ·rintro ⟨A,B,hd,hf⟩
  obtain ⟨s,h1,h2⟩ := By h hf
  refine ⟨z + s * A,t + s * B,bal_of_f h hb h2,?_⟩
  rcases Classical.em (A = 0) with ha | ha
  ·right
   have hB : B ≠ 0 := by
    rcases hd with ⟨g,_⟩ | ⟨g,_⟩ | ⟨i,_,⟨_,g⟩ | ⟨_,g⟩⟩ <;> grind
   intro he
   have : s * B = 0 := by grind
   rcases Rat.mul_eq_zero.1 this with g | g <;> grind
  ·left
   intro he
   have : s * A = 0 := by grind
   rcases Rat.mul_eq_zero.1 this with g | g <;> grind
 ·rintro ⟨z',t',hb',hne⟩
  have hfe := fun i (hi : i < b.N) => Bal.f_eq h hb' hb hi
  have hfr : b.Free z t (z' - z) (t' - t) := by
   intro i hi
   have hy : b.y z' t' i = b.y z t i + (z' - z + (t' - t) * b.X i) := by rw [y,y];grind
   have he := hfe i hi
   rw [f,f,hy] at he
   exact ⟨fun hv p hp => qg (h.crv i hi) hp hv he,fun hv p hp => ry (h.crv i hi) hp hv he⟩
  have use : ∀ A B : Rat,b.Dir A B → (∀ i,i < b.N → (0 < A + B * b.X i → 0 < z' - z + (t' - t) * b.X i) ∧ (A + B * b.X i < 0 → z' - z + (t' - t) * b.X i < 0)) → ∃ A B,b.Dir A B ∧ b.Free z t A B := by
   intro A B hd hs
   exact ⟨A,B,hd,fun i hi => ⟨fun hv => (hfr i hi).1 ((hs i hi).1 hv),fun hv => (hfr i hi).2 ((hs i hi).2 hv)⟩⟩
  rcases Classical.em (t' = t) with ht | ht
  ·have hz : z' ≠ z := by rcases hne with g | g <;> grind
   rcases Classical.em (0 < z' - z) with hp | hp
   ·exact use 1 0 (.inl ⟨rfl,rfl⟩) fun i _ => ⟨fun _ => by rw [ht];grind,fun hv => by grind⟩
   ·exact use (-1) 0 (.inr (.inl ⟨rfl,rfl⟩)) fun i _ => ⟨fun hv => by grind,fun _ => by rw [ht];grind⟩
  ·rcases Classical.em (∃ i,i < b.N ∧ 0 ≤ z' - z + (t' - t) * b.X i) with hx | hx
   ·rcases Classical.em (0 < t' - t) with hp | hp
    ·obtain ⟨k,h1,h2,h3⟩ := fB b.X b.N hx
     refine use (-b.X k) 1 (.inr (.inr ⟨k,h1,.inl ⟨rfl,rfl⟩⟩)) fun i hi => ⟨fun hv => ?_,fun hv => ?_⟩
     ·have := Rat.mul_pos hp (show 0 < b.X i - b.X k by grind)
      grind
     ·rcases Classical.em (0 ≤ z' - z + (t' - t) * b.X i) with hc | hc
      ·have := h3 i hi hc;grind
      ·grind
    ·obtain ⟨k,h1,h2,h3⟩ := fB (fun i => -b.X i) b.N hx
     have hp' : 0 < t - t' := by grind
     refine use (b.X k) (-1) (.inr (.inr ⟨k,h1,.inr ⟨rfl,rfl⟩⟩)) fun i hi => ⟨fun hv => ?_,fun hv => ?_⟩
     ·have := Rat.mul_pos hp' (show 0 < b.X k - b.X i by grind)
      grind
     ·rcases Classical.em (0 ≤ z' - z + (t' - t) * b.X i) with hc | hc
      ·have := h3 i hi hc;grind
      ·grind
   ·refine use (-1) 0 (.inr (.inl ⟨rfl,rfl⟩)) fun i hi => ⟨fun hv => by grind,fun _ => ?_⟩
    rcases Classical.em (0 ≤ z' - z + (t' - t) * b.X i) with hc | hc
    ·exact absurd ⟨i,hi,hc⟩ hx
    ·grind
theorem exclude (h : b.Ok) {z t A B : Rat} (hb : b.Bal z t) (hl : ∀ i,i < b.N → 0 < A + B * b.X i → b.lim i) : b.w * (A + B * b.A) ≤ ac (fun i => if 0 < A + B * b.X i then b.cap i * (A + B * b.X i) else 0) b.N := by
 have h1 : b.w * (A + B * b.A) = ac (fun i => b.f z t i * (A + B * b.X i)) b.N := by
  have h2 := mc (f := fun i => b.f z t i * A) (g := fun i => b.f z t i * b.X i * B) (n := b.N)
  rw [gC (f := b.f z t),gC (f := fun i => b.f z t i * b.X i)] at h2
  have h3 : ac (fun i => b.f z t i * (A + B * b.X i)) b.N = ac (fun i => b.f z t i * A + b.f z t i * b.X i * B) b.N := aT fun i _ => by grind
  rw [h3,h2]
  have e1 : ac (b.f z t) b.N = b.w := hb.1
  have e2 : ac (fun i => b.f z t i * b.X i) b.N = b.w * b.A := hb.2
  rw [e1,e2];grind
 rw [h1]
 refine kK fun i hi => ?_
 have hnn := Ax h (z := z) (t := t) hi
 split
 ·rename_i hv
  have hc := h.crv i hi
  have hle : b.f z t i ≤ b.cap i := by
   obtain ⟨q,hq⟩ : ∃ q,b.y z t i ≤ q ∧ uO (b.n i) (b.S i) (b.n i) q := by
    cases hn : b.n i with
    |zero => exact ⟨b.y z t i,Rat.le_refl,⟨Nat.le_refl _,fun k hk => by omega,fun hk => by omega⟩⟩
    |succ k => exact ⟨b.y z t i + c9 (b.S i k - b.y z t i),by simp only [c9];grind,⟨Nat.le_refl _,fun k' hk' => by
      obtain rfl : k = k' := by omega
      simp only [c9];grind,fun hk => by omega⟩⟩
   have := fq hc hq.1
   rw [mr hc hq.2 (hl i hi hv)] at this
   exact this
  have := Rat.mul_nonneg (show 0 ≤ b.cap i - b.f z t i by grind) (Rat.le_of_lt hv)
  grind
 ·rename_i hv
  have := Rat.mul_nonneg hnn (show 0 ≤ -(A + B * b.X i) by grind)
  grind
end Bd
theorem sb (q : Rat) : q * (q.den : Rat) = q.num := by
 have hne : ((q.den : Int) : Rat) ≠ 0 := fun e => bW q (Rat.intCast_inj.1 (by simpa using e))
 have h := fA q
 have h2 : ((q.num : Rat) / ((q.den : Int) : Rat)) * ((q.den : Int) : Rat) = q.num := Rat.div_mul_cancel hne
 rw [← h,Rat.intCast_natCast] at h2
 exact h2
theorem vU {p q : Rat} {m : Nat} (hp : hq p m) (hq' : hq q m) (hne : p < q) : 1 ≤ (q - p) * ((65536 ^ (m + m + 1) : Nat) : Rat) := by
 have h := (@HQ.sub q p m m ⟨hq'⟩ ⟨hp⟩).ok
 generalize hd : q - p = d at *
 have h0 : 0 < d := by grind
 have hnum : 1 ≤ d.num := by
  have h1 := Rat.num_nonneg.2 (Rat.le_of_lt h0)
  have h2 : d.num ≠ 0 := fun e => by have := Rat.num_eq_zero.1 e;grind
  omega
 have hdd := sb d
 have h1 : (1 : Rat) ≤ d.num := by exact_mod_cast hnum
 have h2 : (d.den : Rat) ≤ ((65536 ^ (m + m + 1) : Nat) : Rat) := by exact_mod_cast Nat.le_of_lt h.2
 have h3 := Rat.mul_le_mul_of_nonneg_left h2 (Rat.le_of_lt h0)
 grind
theorem vT {q : Rat} {m : Nat} (h : hq q m) : q < ((65536 ^ m : Nat) : Rat) ∧ -((65536 ^ m : Nat) : Rat) < q := by
 have hdd := sb q
 have hd1 : (1 : Rat) ≤ (q.den : Rat) := by exact_mod_cast q.den_pos
 have hab := h.1
 generalize 65536 ^ m = V at *
 have hn : q.num < (V : Int) ∧ -(V : Int) < q.num := by omega
 have hn1 : (q.num : Rat) < ((V : Nat) : Rat) := by
  have := Rat.intCast_lt_intCast.2 hn.1
  rwa [Rat.intCast_natCast] at this
 have hn2 : -((V : Nat) : Rat) < (q.num : Rat) := by
  have := Rat.intCast_lt_intCast.2 hn.2
  rwa [Rat.intCast_neg,Rat.intCast_natCast] at this
 have hW : (0 : Rat) ≤ ((V : Nat) : Rat) := by exact_mod_cast Nat.zero_le _
 generalize ((V : Nat) : Rat) = W at *
 generalize (q.den : Rat) = D at *
 constructor
 ·rcases Classical.em (q < W) with hc | hc
  ·exact hc
  ·have := Rat.mul_nonneg (show 0 ≤ q - W by grind) (show 0 ≤ D by grind)
   have := Rat.mul_nonneg hW (show 0 ≤ D - 1 by grind)
   grind
 ·rcases Classical.em (-W < q) with hc | hc
  ·exact hc
  ·have := Rat.mul_nonneg (show 0 ≤ -W - q by grind) (show 0 ≤ D by grind)
   have := Rat.mul_nonneg hW (show 0 ≤ D - 1 by grind)
   grind
namespace Bd
structure Sz (b : Bd) : Prop where
 N : b.N ≤ 10
 n : ∀ i,i < b.N → b.n i ≤ 5
 X : ∀ i,i < b.N → hq (b.X i) 4
 C : ∀ i,i < b.N → hq (b.C i) 9
 S : ∀ i,i < b.N → ∀ k,k < b.n i → hq (b.S i k) 4
 M : ∀ i,i < b.N → ∀ k,k < b.n i → hq (b.M i k) 4
 w : hq b.w 4
 A : hq b.A 4
variable {b : Bd}
theorem Sz.k (h : b.Sz) {p : Nat → Nat} (hp : ∀ i,i < b.N → p i ≤ b.n i) {i : Nat} (hi : i < b.N) : HQ (b.k p i) 4 := by
 rw [Bd.k]
 have h1 := hp i hi
 cases hpi : p i with
 |zero => rw [aQ];exact HQ.zero
 |succ m => exact ⟨h.M i hi m (by omega)⟩
theorem Sz.bef (h : b.Sz) {i : Nat} (hi : i < b.N) {k : Nat} (hk : k < b.n i) : HQ (aQ (b.M i) k) 4 := by
 cases k with
 |zero => rw [aQ];exact HQ.zero
 |succ m => exact ⟨h.M i hi m (by omega)⟩
theorem Sz.o (h : b.Sz) {p : Nat → Nat} (hp : ∀ i,i < b.N → p i ≤ b.n i) {i : Nat} (hi : i < b.N) : HQ (b.o p i) 74 := by
 rw [Bd.o,gi]
 have h1 := hp i hi
 have h2 := h.n i hi
 refine (bh (m := 13) (p i) fun k hk => ?_).mono (by omega)
 have := h.bef hi (k := k) (by omega)
 have : HQ (b.M i k) 4 := ⟨h.M i hi k (by omega)⟩
 have : HQ (b.S i k) 4 := ⟨h.S i hi k (by omega)⟩
 show HQ ((b.M i k - aQ (b.M i) k) * b.S i k) 13
 exact inferInstanceAs (HQ ((b.M i k - aQ (b.M i) k) * b.S i k) (4 + 4 + 1 + 4))
theorem Sz.Kh (h : b.Sz) {p : Nat → Nat} (hp : ∀ i,i < b.N → p i ≤ b.n i) : HQ (b.Kh p) 54 := by
 have := h.N
 exact (bh (m := 4) b.N fun i hi => h.k hp hi).mono (by omega)
theorem Sz.Kc (h : b.Sz) {p : Nat → Nat} (hp : ∀ i,i < b.N → p i ≤ b.n i) : HQ (b.Kc p) 94 := by
 have := h.N
 refine (bh (m := 8) b.N fun i hi => ?_).mono (by omega)
 have := h.k hp hi
 have : HQ (b.X i) 4 := ⟨h.X i hi⟩
 exact inferInstanceAs (HQ (b.k p i * b.X i) (4 + 4))
theorem Sz.Kp (h : b.Sz) {p : Nat → Nat} (hp : ∀ i,i < b.N → p i ≤ b.n i) : HQ (b.Kp p) 134 := by
 have := h.N
 refine (bh (m := 12) b.N fun i hi => ?_).mono (by omega)
 have := h.k hp hi
 have : HQ (b.X i) 4 := ⟨h.X i hi⟩
 exact inferInstanceAs (HQ (b.k p i * b.X i * b.X i) (4 + 4 + 4))
theorem Sz.Fo (h : b.Sz) {p : Nat → Nat} (hp : ∀ i,i < b.N → p i ≤ b.n i) : HQ (b.Fo p) 894 := by
 have := h.N
 refine (bh (m := 88) b.N fun i hi => ?_).mono (by omega)
 have := h.k hp hi
 have := h.o hp hi
 have : HQ (b.C i) 9 := ⟨h.C i hi⟩
 exact inferInstanceAs (HQ (b.k p i * b.C i - b.o p i) (4 + 9 + 74 + 1))
theorem Sz.Go (h : b.Sz) {p : Nat → Nat} (hp : ∀ i,i < b.N → p i ≤ b.n i) : HQ (b.Go p) 934 := by
 have := h.N
 refine (bh (m := 92) b.N fun i hi => ?_).mono (by omega)
 have := h.k hp hi
 have := h.o hp hi
 have : HQ (b.C i) 9 := ⟨h.C i hi⟩
 have : HQ (b.X i) 4 := ⟨h.X i hi⟩
 exact inferInstanceAs (HQ ((b.k p i * b.C i - b.o p i) * b.X i) (4 + 9 + 74 + 1 + 4))
theorem Sz.Tm (h : b.Sz) {t : Rat} (ht : b.Tm t) : hq t 3000 := by
 obtain ⟨p,hp,hK,ht⟩ := ht
 have h1 := h.Kh hp
 have h2 := h.Kc hp
 have h3 := h.Kp hp
 have h4 := h.Fo hp
 have h5 := h.Go hp
 have hw : HQ b.w 4 := ⟨h.w⟩
 have hA : HQ b.A 4 := ⟨h.A⟩
 rcases ht with ⟨i,hi,k,hk,g1,g2⟩ | ⟨g1,g2⟩
 ·have hX : HQ (b.X i) 4 := ⟨h.X i hi⟩
  have hC : HQ (b.C i) 9 := ⟨h.C i hi⟩
  have hS : HQ (b.S i k) 4 := ⟨h.S i hi k hk⟩
  have : t = (b.S i k - b.C i - (b.w - b.Fo p) / b.Kh p) / (b.X i - b.Kc p / b.Kh p) := by
   rw [Bd.y,Bd.ln] at g1
   rw [Bd.gr] at g2
   grind
  rw [this]
  have e : HQ ((b.S i k - b.C i - (b.w - b.Fo p) / b.Kh p) / (b.X i - b.Kc p / b.Kh p)) _ := inferInstance
  exact et e.ok (by decide)
 ·have : t = (b.w * b.A - b.Go p - b.Kc p * ((b.w - b.Fo p) / b.Kh p)) / ((b.Kh p * b.Kp p - b.Kc p * b.Kc p) / b.Kh p) := by
   rw [Bd.eln,Bd.ln] at g1
   rw [Bd.det] at g2
   grind
  rw [this]
  have e : HQ ((b.w * b.A - b.Go p - b.Kc p * ((b.w - b.Fo p) / b.Kh p)) / ((b.Kh p * b.Kp p - b.Kc p * b.Kc p) / b.Kh p)) _ := inferInstance
  exact et e.ok (by decide)
end Bd
def oO (S : Nat → Rat) (y : Rat) : Nat → Nat
 |0 => 0
 |m + 1 => if S m < y then m + 1 else oO S y m
def j_ (S : Nat → Rat) (y : Rat) : Nat → Nat
 |0 => 0
 |m + 1 => if S m ≤ y then m + 1 else j_ S y m
theorem pV {S : Nat → Rat} {y : Rat} : ∀ m,oO S y m ≤ m ∧ (∀ k,oO S y m = k + 1 → S k < y) ∧ (oO S y m < m → y ≤ S (oO S y m))
 |0 => ⟨Nat.le_refl _,fun k hk => by simp [oO] at hk,fun h => by simp [oO] at h⟩
 |m + 1 => by
  obtain ⟨h1,h2,h3⟩ := pV (S := S) (y := y) m
  rw [oO]
  split
  ·rename_i hy
   exact ⟨Nat.le_refl _,fun k hk => by have : k = m := by omega
                                       subst this;exact hy,fun h => by omega⟩
  ·rename_i hy
   refine ⟨by omega,h2,fun _ => ?_⟩
   by_cases hp : oO S y m < m
   ·exact h3 hp
   ·rw [show oO S y m = m by omega];grind
theorem pY {S : Nat → Rat} {y : Rat} : ∀ m,j_ S y m ≤ m ∧ (∀ k,j_ S y m = k + 1 → S k ≤ y) ∧ (j_ S y m < m → y < S (j_ S y m))
 |0 => ⟨Nat.le_refl _,fun k hk => by simp [j_] at hk,fun h => by simp [j_] at h⟩
 |m + 1 => by
  obtain ⟨h1,h2,h3⟩ := pY (S := S) (y := y) m
  rw [j_]
  split
  ·rename_i hy
   exact ⟨Nat.le_refl _,fun k hk => by have : k = m := by omega
                                       subst this;exact hy,fun h => by omega⟩
  ·rename_i hy
   refine ⟨by omega,h2,fun _ => ?_⟩
   by_cases hp : j_ S y m < m
   ·exact h3 hp
   ·rw [show j_ S y m = m by omega];grind
theorem lN {n : Nat} {S : Nat → Rat} {y : Rat} : InL n S (oO S y n) y := pV n
theorem ra {n : Nat} {S : Nat → Rat} {y : Rat} : InR n S (j_ S y n) y := pY n
theorem InL.uniq {n : Nat} {S M : Nat → Rat} (h : Crv n S M) {p q : Nat} {y : Rat} (h1 : InL n S p y) (h2 : InL n S q y) : p = q := by
 have key : ∀ {p q : Nat},InL n S p y → InL n S q y → p < q → False := by
  intro p q h1 h2 hlt
  obtain ⟨k,rfl⟩ : ∃ k,q = k + 1 := ⟨q - 1,by omega⟩
  have g1 := h2.2.1 k rfl
  have g2 := h1.2.2 (by have := h2.1;omega)
  have := h.mono_st (i := p) (j := k) (by omega) (by have := h2.1;omega)
  grind
 rcases Nat.lt_trichotomy p q with g | g | g
 ·exact (key h1 h2 g).elim
 ·exact g
 ·exact (key h2 h1 g).elim
theorem InR.uniq {n : Nat} {S M : Nat → Rat} (h : Crv n S M) {p q : Nat} {y : Rat} (h1 : InR n S p y) (h2 : InR n S q y) : p = q := by
 have key : ∀ {p q : Nat},InR n S p y → InR n S q y → p < q → False := by
  intro p q h1 h2 hlt
  obtain ⟨k,rfl⟩ : ∃ k,q = k + 1 := ⟨q - 1,by omega⟩
  have g1 := h2.2.1 k rfl
  have g2 := h1.2.2 (by have := h2.1;omega)
  have := h.mono_st (i := p) (j := k) (by omega) (by have := h2.1;omega)
  grind
 rcases Nat.lt_trichotomy p q with g | g | g
 ·exact (key h1 h2 g).elim
 ·exact g
 ·exact (key h2 h1 g).elim
namespace Bd
def pL (b : Bd) (z t : Rat) (i : Nat) : Nat := oO (b.S i) (b.y z t i) (b.n i)
def pR (b : Bd) (z t : Rat) (i : Nat) : Nat := j_ (b.S i) (b.y z t i) (b.n i)
def newt (kh kc kp fo mo : Rat) : Option (Rat × Rat) := if kh * kp - kc * kc = 0 then none else some ((kp * fo - kc * mo) / (kh * kp - kc * kc),(kh * mo - kc * fo) / (kh * kp - kc * kc))
def tryP (b : Bd) (z t : Rat) (p : Nat → Nat) : Option (Rat × Rat) := match newt (b.Kh p) (b.Kc p) (b.Kp p) (b.w - b.F z t) (-(b.e z t)) with
 |none => none
 |some d => if b.F (z + d.1) (t + d.2) = b.w ∧ b.G (z + d.1) (t + d.2) = b.w * b.A then some (z + d.1,t + d.2) else none
def guess (b : Bd) (z t : Rat) : Option (Rat × Rat) := match b.tryP z t (b.pR z t) with
 |some x => some x
 |none => b.tryP z t (b.pL z t)
noncomputable def sg (b : Bd) (t : Rat) : Rat := Classical.epsilon fun z => b.Least z t
noncomputable def E (b : Bd) (t : Rat) : Rat := b.e (b.sg t) t
open Classical in
noncomputable def dbl (b : Bd) (s : Rat) : Nat → Rat → Option Rat
 |0,_ => none
 |n + 1,w => if s * b.E (s * w) < 0 then dbl b s n (w + w) else some w
noncomputable def at1 (b : Bd) (t : Rat) : Option (Rat × Rat) := if b.E t = 0 then some (b.sg t,t) else b.guess (b.sg t) t
noncomputable def bis (b : Bd) : Nat → Rat → Rat → Option (Rat × Rat)
 |0,_,_ => none
 |n + 1,lo,hi => match b.at1 ((lo + hi) / 2) with
  |some x => some x
  |none => if b.E ((lo + hi) / 2) < 0 then bis b n ((lo + hi) / 2) hi else bis b n lo ((lo + hi) / 2)
noncomputable def fst3 (b : Bd) (lo hi : Rat) : Option (Rat × Rat) := match b.at1 0 with
 |some x => some x
 |none => match b.at1 lo with
  |some x => some x
  |none => b.at1 hi
variable {b : Bd}
theorem fm {t : Rat} (h : ∃ z,b.Least z t) : b.Least (b.sg t) t := Classical.epsilon_spec h
theorem sg_eq {z t : Rat} (h : b.Least z t) : b.sg t = z := Least.uniq (fm ⟨z,h⟩) h
theorem qx {z t : Rat} {p : Nat → Nat} {x : Rat × Rat} (h : b.tryP z t p = some x) : b.Bal x.1 x.2 := by
 unfold tryP at h
 split at h
 ·cases h
 ·split at h
  ·cases h;assumption
  ·cases h
theorem tA {z t : Rat} {x : Rat × Rat} (h : b.guess z t = some x) : b.Bal x.1 x.2 := by
 unfold guess at h
 split at h
 ·rename_i hx;cases h;exact qx hx
 ·exact qx h
theorem kx {t : Rat} (hl : ∃ z,b.Least z t) {x : Rat × Rat} (h : b.at1 t = some x) : b.Bal x.1 x.2 := by
 unfold at1 at h
 split at h
 ·rename_i he
  cases h
  refine ⟨(fm hl).1,?_⟩
  rw [E,e] at he
  show b.G (b.sg t) t = _
  grind
 ·exact tA h
theorem qR (h : b.Ok) {lo hi : Rat} (hl : ∀ t,∃ z,b.Least z t) (hlt : lo < hi) (el : b.E lo < 0) (eh : 0 < b.E hi)
  (sep : ∀ t t',b.Tm t → b.Tm t' → lo ≤ t → t ≤ hi → lo ≤ t' → t' ≤ hi → t = t') : b.guess (b.sg lo) lo ≠ none := by
 have ll := fm (hl lo)
 have hp : b.Inl (b.pL (b.sg lo) lo) (b.sg lo) lo := fun i _ => lN
 obtain ⟨t,h1,h2,h3⟩ := vS h hlt ll (fm (hl hi)) el eh sep hp
 have el2 : b.e (b.sg lo) lo = b.E lo := rfl
 rw [guess]
 generalize hzd : b.sg lo = z0 at *
 generalize hpd : b.pL z0 lo = p at *
 have hK := ll.K h hp
 have hne : b.Kh p ≠ 0 := by grind
 have hz := ln_at h ll.1 hp.c hK
 have he : b.e z0 lo = b.eln p lo := by
  have := hp.c
  rw [e,G_at h this,eln,← hz]
 have htry : b.tryP z0 lo p = some (b.ln p t,t) := by
  have hel := lj hne lo t
  rw [h2] at hel
  rw [det] at h3 hel
  rw [tryP,newt,if_neg h3]
  dsimp only
  have e2 : lo + (b.Kh p * -(b.e z0 lo) - b.Kc p * (b.w - b.F z0 lo)) / (b.Kh p * b.Kp p - b.Kc p * b.Kc p) = t := by
   rw [ll.1,he];grind
  have e1 : z0 + (b.Kp p * (b.w - b.F z0 lo) - b.Kc p * -(b.e z0 lo)) / (b.Kh p * b.Kp p - b.Kc p * b.Kc p) = b.ln p t := by
   have e3 : b.ln p t = z0 - b.Kc p / b.Kh p * (t - lo) := by
    rw [hz,ln,ln];grind
   rw [e3,ll.1,he];grind
  rw [e1,e2]
  exact if_pos h1
 rw [htry]
 intro hn
 split at hn <;> cases hn
theorem k8 (h : b.Ok) (hsz : b.Sz) (hl : ∀ t,∃ z,b.Least z t) {W : Rat} (hW : W = ((65536 ^ (3000 + 3000 + 1) : Nat) : Rat)) : ∀ (n : Nat) (lo hi : Rat),lo < hi → b.E lo < 0 → 0 < b.E hi → b.guess (b.sg lo) lo = none → (hi - lo) * W < ((2 ^ n : Nat) : Rat) → ∃ x,b.bis n lo hi = some x ∧ b.Bal x.1 x.2
 |0,lo,hi,hlt,el,eh,hg,hd => by
  exfalso
  have hd1 : (hi - lo) * W < 1 := by
   rw [Nat.pow_zero] at hd
   exact hd
  have hW0 : (0 : Rat) ≤ W := by rw [hW];exact_mod_cast Nat.zero_le _
  refine qR h hl hlt el eh (fun t t' ht ht' g1 g2 g3 g4 => ?_) hg
  have k1 := hsz.Tm ht
  have k2 := hsz.Tm ht'
  have one : ∀ {u v : Rat},hq u 3000 → hq v 3000 → u < v → v - u ≤ hi - lo → False := by
   intro u v hu hv huv hle
   have h1 := vU hu hv huv
   rw [← hW] at h1
   have h2 := Rat.mul_nonneg (show 0 ≤ (hi - lo) - (v - u) by grind) hW0
   grind
  rcases Classical.em (t < t') with hc | hc
  ·exact (one k1 k2 hc (by grind)).elim
  ·rcases Classical.em (t' < t) with hc' | hc'
   ·exact (one k2 k1 hc' (by grind)).elim
   ·grind
 |n + 1,lo,hi,hlt,el,eh,hg,hd => by
  have hpow : ((2 ^ (n + 1) : Nat) : Rat) = 2 * ((2 ^ n : Nat) : Rat) := by
   rw [Nat.pow_succ,Rat.natCast_mul];grind
  rw [hpow] at hd
  rw [bis]
  cases h1 : b.at1 ((lo + hi) / 2) with
  |some x => exact ⟨x,rfl,kx (hl _) h1⟩
  |none =>
   dsimp only
   have h2 : b.E ((lo + hi) / 2) ≠ 0 ∧ b.guess (b.sg ((lo + hi) / 2)) ((lo + hi) / 2) = none := by
    unfold at1 at h1
    split at h1
    ·cases h1
    ·exact ⟨‹_›,h1⟩
   split
   ·rename_i hE
    exact k8 h hsz hl hW n _ hi (by grind) hE eh h2.2 (by grind)
   ·rename_i hE
    exact k8 h hsz hl hW n lo _ (by grind) el (by grind) hg (by grind)
def NoTip (b : Bd) : Prop := ∀ s : Rat,s = 1 ∨ s = -1 → ∀ i0,i0 < b.N → (∀ i,i < b.N → 0 < s * (b.X i - b.X i0) → b.lim i) → ¬ ac (fun i => if 0 < s * (b.X i - b.X i0) then b.cap i * (s * (b.X i - b.X i0)) else 0) b.N < b.w * (s * (b.A - b.X i0))
theorem o9 (h : b.Ok) (hsz : b.Sz) (hl : ∀ t,∃ z,b.Least z t) (hn : b.NoTip) {s : Rat} (hs : s = 1 ∨ s = -1) {K : Nat} (hK : 65536 ^ 3000 = 2 ^ K) :
  ∀ (j k : Nat),K ≤ j + k → k ≤ K → ∃ m,m ≤ K ∧ b.dbl s (j + 1) ((2 ^ k : Nat) : Rat) = some ((2 ^ m : Nat) : Rat) ∧ 0 ≤ s * b.E (s * ((2 ^ m : Nat) : Rat)) := by
 intro j
 induction j with
 |zero =>
  intro k h1 h2
  obtain rfl : k = K := by omega
  have hE : ¬ s * b.E (s * ((2 ^ k : Nat) : Rat)) < 0 := by
   intro hlt
   obtain ⟨i0,g1,g2,g3⟩ := Ce h hs (fm (hl _)) hlt fun t' ht' => by
    have := vT (hsz.Tm ht')
    rw [hK] at this
    rcases hs with rfl | rfl <;> grind
   exact hn s hs i0 g1 g2 g3
  refine ⟨k,Nat.le_refl _,?_,by grind⟩
  rw [dbl,if_neg hE]
 |succ j ih =>
  intro k h1 h2
  rw [dbl]
  split
  ·rename_i hlt
   by_cases hk : k = K
   ·subst hk
    exfalso
    obtain ⟨i0,g1,g2,g3⟩ := Ce h hs (fm (hl _)) hlt fun t' ht' => by
     have := vT (hsz.Tm ht')
     rw [hK] at this
     rcases hs with rfl | rfl <;> grind
    exact hn s hs i0 g1 g2 g3
   ·have hp : ((2 ^ k : Nat) : Rat) + ((2 ^ k : Nat) : Rat) = ((2 ^ (k + 1) : Nat) : Rat) := by rw [Nat.pow_succ,Rat.natCast_mul];grind
    rw [hp]
    exact ih (k + 1) (by omega) (by omega)
  ·exact ⟨k,h2,rfl,by grind⟩
noncomputable def eqQ (b : Bd) (n : Nat) : Option (Rat × Rat) := match b.dbl (-1) n 1,b.dbl 1 n 1 with
 |some wl,some wh => (match b.fst3 (-wl) wh with
  |some x => some x
  |none => b.bis n (-wl) wh)
 |_,_ => none
theorem eq_some (h : b.Ok) (hsz : b.Sz) (hl : ∀ t,∃ z,b.Least z t) (hn : b.NoTip) {K n : Nat} (hK : 65536 ^ 3000 = 2 ^ K) {L : Nat} (hL : 65536 ^ (3000 + 3000 + 1) = 2 ^ L) (hKn : K < n) (hLn : K + 1 + L < n) : ∃ x,b.eqQ n = some x ∧ b.Bal x.1 x.2 := by
 obtain ⟨j,rfl⟩ : ∃ j,n = j + 1 := ⟨n - 1,by omega⟩
 obtain ⟨ml,l1,l2,l3⟩ := o9 h hsz hl hn (s := -1) (.inr rfl) hK j 0 (by omega) (by omega)
 obtain ⟨mh,g1,g2,g3⟩ := o9 h hsz hl hn (s := 1) (.inl rfl) hK j 0 (by omega) (by omega)
 rw [show (((2 : Nat) ^ 0 : Nat) : Rat) = 1 by rfl] at l2 g2
 have hml : ((2 ^ ml : Nat) : Rat) ≤ ((2 ^ K : Nat) : Rat) := by exact_mod_cast Nat.pow_le_pow_right (by decide) l1
 have hmh : ((2 ^ mh : Nat) : Rat) ≤ ((2 ^ K : Nat) : Rat) := by exact_mod_cast Nat.pow_le_pow_right (by decide) g1
 have hml0 : (0 : Rat) < ((2 ^ ml : Nat) : Rat) := by exact_mod_cast Nat.pow_pos (by decide)
 have hmh0 : (0 : Rat) < ((2 ^ mh : Nat) : Rat) := by exact_mod_cast Nat.pow_pos (by decide)
 have hW0 : (0 : Rat) < ((2 ^ L : Nat) : Rat) := by exact_mod_cast Nat.pow_pos (by decide)
 have hWL : ((2 ^ K : Nat) : Rat) * 2 * ((2 ^ L : Nat) : Rat) < ((2 ^ (j + 1) : Nat) : Rat) := by
  have : 2 ^ K * 2 * 2 ^ L < 2 ^ (j + 1) := by
   rw [← Nat.pow_succ,← Nat.pow_add]
   exact Nat.pow_lt_pow_right (by decide) (by omega)
  exact_mod_cast this
 rw [eqQ,l2,g2]
 dsimp only
 generalize ((2 ^ ml : Nat) : Rat) = wl at *
 generalize ((2 ^ mh : Nat) : Rat) = wh at *
 generalize ((2 ^ K : Nat) : Rat) = wk at *
 cases hf : b.fst3 (-wl) wh with
 |some x =>
  refine ⟨x,rfl,?_⟩
  unfold fst3 at hf
  split at hf
  ·rename_i hx;cases hf;exact kx (hl _) hx
  ·split at hf
   ·rename_i hx;cases hf;exact kx (hl _) hx
   ·exact kx (hl _) hf
 |none =>
  dsimp only
  have hno : b.at1 (-wl) = none ∧ b.at1 wh = none := by
   unfold fst3 at hf
   split at hf
   ·cases hf
   ·split at hf
    ·cases hf
    ·exact ⟨‹_›,hf⟩
  have key : ∀ t,b.at1 t = none → b.E t ≠ 0 ∧ b.guess (b.sg t) t = none := by
   intro t h1
   unfold at1 at h1
   split at h1
   ·cases h1
   ·exact ⟨‹_›,h1⟩
  obtain ⟨e1,e2⟩ := key _ hno.1
  obtain ⟨e3,e4⟩ := key _ hno.2
  rw [show (-1 : Rat) * wl = -wl by grind] at l3
  rw [show (1 : Rat) * wh = wh by grind] at g3
  refine k8 h hsz hl (W := ((2 ^ L : Nat) : Rat)) (by rw [hL]) (j + 1) (-wl) wh (by grind) (by grind) (by grind) e2 ?_
  have h1 := Rat.mul_nonneg (show 0 ≤ wk - wl by grind) (Rat.le_of_lt hW0)
  have h2 := Rat.mul_nonneg (show 0 ≤ wk - wh by grind) (Rat.le_of_lt hW0)
  generalize ((2 ^ L : Nat) : Rat) = W at *
  grind
end Bd
def cM : List (Rat × Rat) → Rat → Rat
 |[],_ => 0
 |x :: l,z => x.2 * c9 (z - x.1) + cM l z
def i4 : List (Rat × Rat) → Rat
 |[] => 0
 |x :: l => x.2 + i4 l
theorem gd (l m : List (Rat × Rat)) (z : Rat) : cM (l ++ m) z = cM l z + cM m z := by
 induction l with
 |nil => rw [List.nil_append,cM];grind
 |cons x l ih => rw [List.cons_append,cM,cM,ih];grind
theorem o8 (l m : List (Rat × Rat)) : i4 (l ++ m) = i4 l + i4 m := by
 induction l with
 |nil => rw [List.nil_append,i4];grind
 |cons x l ih => rw [List.cons_append,i4,i4,ih];grind
theorem tN {l m : List (Rat × Rat)} (h : l.Perm m) (z : Rat) : cM l z = cM m z := by
 induction h with
 |nil => rfl
 |cons x _ ih => rw [cM,cM,ih]
 |swap x y l => simp only [cM];grind
 |trans _ _ h1 h2 => rw [h1,h2]
theorem iG {l : List (Rat × Rat)} {z : Rat} (h : ∀ x ∈ l,z ≤ x.1) : cM l z = 0 := by
 induction l with
 |nil => rfl
 |cons x l ih =>
  have h1 := h x (by simp)
  rw [cM,ih fun y hy => h y (by simp [hy]),c9,if_neg (by grind)];grind
theorem j6 {l : List (Rat × Rat)} {a z : Rat} (h : ∀ x ∈ l,x.1 ≤ a) (hz : a ≤ z) : cM l z = cM l a + i4 l * (z - a) := by
 induction l with
 |nil => simp only [cM,i4];grind
 |cons x l ih =>
  have h1 := h x (by simp)
  have e1 : c9 (z - x.1) = z - x.1 := by rw [c9];grind
  have e2 : c9 (a - x.1) = a - x.1 := by rw [c9];grind
  simp only [cM,i4]
  rw [ih fun y hy => h y (by simp [hy]),e1,e2];grind
def uL (w : Rat) : List (Rat × Rat) → Rat → Rat → Rat → Rat
 |[],c,k,a => if 0 < k then a + (w - c) / k else a
 |x :: l,c,k,a => if 0 < k then (if w ≤ c + k * (x.1 - a) then a + (w - c) / k else uL w l (c + k * (x.1 - a)) (k + x.2) x.1) else uL w l c (k + x.2) x.1
theorem zV {Φ : Rat → Rat} {w c k a : Rat} (hm : ∀ x y,x ≤ y → Φ x ≤ Φ y) (ha : Φ a = c) (hc : c < w) (hk : 0 < k) (hu : ∀ z,a ≤ z → z ≤ a + (w - c) / k → Φ z = c + k * (z - a)) : Φ (a + (w - c) / k) = w ∧ ∀ z',z' < a + (w - c) / k → Φ z' < w := by
 have hq : (w - c) / k * k = w - c := Rat.div_mul_cancel (by grind)
 have h0 : 0 ≤ (w - c) / k := by rw [Rat.div_def];exact Rat.mul_nonneg (by grind) (Rat.le_of_lt (Rat.inv_pos.2 hk))
 generalize (w - c) / k = d at *
 refine ⟨by rw [hu _ (by grind) Rat.le_refl];grind,fun z' hz => ?_⟩
 rcases Classical.em (a ≤ z') with h | h
 ·rw [hu z' h (by grind)]
  have := Rat.mul_pos hk (show 0 < a + d - z' by grind)
  grind
 ·have := hm z' a (by grind)
  grind
theorem AO {w : Rat} {Φ : Rat → Rat} (hm : ∀ x y,x ≤ y → Φ x ≤ Φ y) (hw : 0 < w) (hex : ∃ z,w ≤ Φ z) : ∀ (R P : List (Rat × Rat)) (c k a : Rat),(∀ z,Φ z = cM P z + cM R z) → R.Pairwise (fun x y => x.1 ≤ y.1) →
  ((P = [] ∧ c = 0 ∧ k = 0) ∨ ((∀ x ∈ P,x.1 ≤ a) ∧ (∀ x ∈ R,a ≤ x.1) ∧ Φ a = c ∧ c < w ∧ k = i4 P)) → Φ (uL w R c k a) = w ∧ ∀ z',z' < uL w R c k a → Φ z' < w := by
 intro R
 induction R with
 |nil =>
  intro P c k a hΦ _ h
  obtain ⟨z0,hz0⟩ := hex
  rcases h with ⟨rfl,rfl,rfl⟩ | ⟨h1,_,h3,h4,h5⟩
  ·exfalso
   rw [hΦ] at hz0
   simp only [cM] at hz0
   grind
  ·have hline : ∀ z,a ≤ z → Φ z = c + k * (z - a) := fun z hz => by
    have e1 := hΦ z
    have e2 := hΦ a
    rw [j6 h1 hz,← h5] at e1
    simp only [cM] at e1 e2
    grind
   rw [uL]
   split
   ·rename_i hk
    exact zV hm h3 h4 hk fun z hz _ => hline z hz
   ·rename_i hk
    exfalso
    rcases Classical.em (a ≤ z0) with hz | hz
    ·rw [hline z0 hz] at hz0
     have := Rat.mul_nonneg (show 0 ≤ -k by grind) (show 0 ≤ z0 - a by grind)
     grind
    ·have := hm z0 a (by grind);grind
 |cons x R ih =>
  intro P c k a hΦ hs h
  rw [List.pairwise_cons] at hs
  have hΦ' : ∀ z,Φ z = cM (P ++ [x]) z + cM R z := fun z => by
   rw [hΦ,gd];simp only [cM];grind
  rcases h with ⟨rfl,rfl,rfl⟩ | ⟨h1,h2,h3,h4,h5⟩
  ·rw [uL,if_neg (by grind)]
   refine ih ([] ++ [x]) 0 (0 + x.2) x.1 hΦ' hs.2 (.inr ⟨fun y hy => by simp at hy;subst hy;exact Rat.le_refl,fun y hy => hs.1 y hy,?_,hw,by simp only [i4,List.nil_append];grind⟩)
   rw [hΦ,iG (l := x :: R) fun y hy => ?_]
   ·simp only [cM];grind
   ·rcases List.mem_cons.1 hy with rfl | hy
    ·exact Rat.le_refl
    ·exact hs.1 y hy
  ·have hax := h2 x (by simp)
   have hline : ∀ z,a ≤ z → z ≤ x.1 → Φ z = c + k * (z - a) := fun z hz hzx => by
    have e1 := hΦ z
    have e2 := hΦ a
    rw [j6 h1 hz,← h5,iG (l := x :: R) fun y hy => ?_] at e1
    ·rw [iG (l := x :: R) fun y hy => h2 y hy] at e2
     grind
    ·rcases List.mem_cons.1 hy with rfl | hy
     ·exact hzx
     ·have := hs.1 y hy;grind
   have hx1 := hline x.1 hax Rat.le_refl
   have hP : ∀ y ∈ P ++ [x],y.1 ≤ x.1 := fun y hy => by
    rcases List.mem_append.1 hy with hy | hy
    ·have := h1 y hy;grind
    ·simp at hy;subst hy;exact Rat.le_refl
   have hcs : k + x.2 = i4 (P ++ [x]) := by rw [o8,← h5];simp only [i4];grind
   rw [uL]
   split
   ·rename_i hk
    split
    ·rename_i hle
     refine zV hm h3 h4 hk fun z hz hz2 => hline z hz ?_
     have hq : (w - c) / k * k = w - c := Rat.div_mul_cancel (by grind)
     generalize (w - c) / k = d at *
     rcases Classical.em (z ≤ x.1) with hc | hc
     ·exact hc
     ·have := Rat.mul_pos hk (show 0 < a + d - x.1 by grind)
      grind
    ·rename_i hlt
     exact ih (P ++ [x]) _ _ _ hΦ' hs.2 (.inr ⟨hP,fun y hy => hs.1 y hy,hx1,by grind,hcs⟩)
   ·rename_i hk
    have h6 := hm a x.1 hax
    have h7 := Rat.mul_nonneg (show 0 ≤ -k by grind) (show 0 ≤ x.1 - a by grind)
    exact ih (P ++ [x]) _ _ _ hΦ' hs.2 (.inr ⟨hP,fun y hy => hs.1 y hy,by grind,h4,hcs⟩)
namespace Bd
variable {b : Bd}
def bnd1 (b : Bd) (t : Rat) (i : Nat) : List (Rat × Rat) := (List.range (b.n i)).map fun k => (b.S i k - (b.C i + t * b.X i),b.M i k - aQ (b.M i) k)
def bnds (b : Bd) (t : Rat) : List (Rat × Rat) := (List.range b.N).flatMap (b.bnd1 t)
theorem u_ (b : Bd) (z t : Rat) (i : Nat) : cM (b.bnd1 t i) z = b.f z t i := by
 have key : ∀ m,cM ((List.range m).map fun k => (b.S i k - (b.C i + t * b.X i),b.M i k - aQ (b.M i) k)) z = ac (cB (b.S i) (b.M i) (b.y z t i)) m := by
  intro m
  induction m with
  |zero => rfl
  |succ m ih =>
   rw [List.range_succ,List.map_append,gd,ih,ac,jM]
   simp only [List.map_cons,List.map_nil,cM]
   rw [show z - (b.S i m - (b.C i + t * b.X i)) = b.y z t i - b.S i m by rw [y];grind];grind
 exact key (b.n i)
theorem ve (b : Bd) (z t : Rat) : cM (b.bnds t) z = b.F z t := by
 have key : ∀ m,cM ((List.range m).flatMap (b.bnd1 t)) z = ac (b.f z t) m := by
  intro m
  induction m with
  |zero => rfl
  |succ m ih =>
   rw [List.range_succ,List.flatMap_append,gd,ih,ac]
   simp only [List.flatMap_cons,List.flatMap_nil,List.append_nil,u_]
 exact key b.N
theorem settled_least (h : b.Ok) {t : Rat} (hex : ∃ z,b.w ≤ b.F z t) {l : List (Rat × Rat)} (hp : l.Perm (b.bnds t)) (hs : l.Pairwise fun x y => x.1 ≤ y.1) : b.Least (uL b.w l 0 0 0) t := by
 refine AO (Φ := fun z => b.F z t) (fun x y hxy => Ac h hxy) h.pos hex l [] 0 0 0 (fun z => ?_) hs (.inl ⟨rfl,rfl,rfl⟩)
 rw [tN hp,ve,cM];grind
theorem yu (_h : b.Ok) (t : Rat) : ∃ z0 : Rat,∀ z,z0 ≤ z → b.Inc b.n z t := by
 have key : ∀ m,m ≤ b.N → ∃ z0 : Rat,∀ z,z0 ≤ z → ∀ i,i < m → uO (b.n i) (b.S i) (b.n i) (b.y z t i) := by
  intro m
  induction m with
  |zero => exact fun _ => ⟨0,fun _ _ i hi => by omega⟩
  |succ m ih =>
   intro hm
   obtain ⟨z0,h1⟩ := ih (by omega)
   cases hn : b.n m with
   |zero =>
    refine ⟨z0,fun z hz i hi => ?_⟩
    by_cases he : i < m
    ·exact h1 z hz i he
    ·obtain rfl : i = m := by omega
     exact ⟨Nat.le_refl _,fun k hk => by omega,fun hk => by omega⟩
   |succ k =>
    obtain ⟨u,g0,g1,g2⟩ := k6 z0 (b.S m k - (b.C m + t * b.X m))
    refine ⟨u,fun z hz i hi => ?_⟩
    by_cases he : i < m
    ·exact h1 z (by grind) i he
    ·obtain rfl : i = m := by omega
     refine ⟨Nat.le_refl _,fun k' hk' => ?_,fun hk => by omega⟩
     obtain rfl : k = k' := by omega
     rw [y];grind
 exact key b.N (Nat.le_refl _)
theorem enough (h : b.Ok) (t : Rat) (hd : ¬ ((∀ i,i < b.N → b.lim i) ∧ ac b.cap b.N < b.w)) : ∃ z,b.w ≤ b.F z t := by
 obtain ⟨z0,h0⟩ := yu h t
 rcases Classical.em (∀ i,i < b.N → b.lim i) with hl | hl
 ·have hc : b.w ≤ ac b.cap b.N := by
   rcases Classical.em (ac b.cap b.N < b.w) with hc | hc
   ·exact absurd ⟨hl,hc⟩ hd
   ·grind
  refine ⟨z0,?_⟩
  have : b.F z0 t = ac b.cap b.N := aT fun i hi => mr (h.crv i hi) (h0 z0 Rat.le_refl i hi) (hl i hi)
  rw [this];exact hc
 ·obtain ⟨i,hi,hn⟩ : ∃ i,i < b.N ∧ ¬ b.lim i := by
   rcases Classical.em (∃ i,i < b.N ∧ ¬ b.lim i) with hx | hx
   ·exact hx
   ·exact absurd (fun i hi => by
     rcases Classical.em (b.lim i) with hc | hc
     ·exact hc
     ·exact absurd ⟨i,hi,hc⟩ hx) hl
  have hpos : 0 < b.k b.n i := by
   have := nQ (h.crv i hi) (Nat.le_refl (b.n i))
   have h2 : aQ (b.M i) (b.n i) ≠ 0 := hn
   rw [k];grind
  obtain ⟨u0,hu⟩ := gL (g := b.k b.n i) (c := b.k b.n i * (b.C i + t * b.X i) - b.o b.n i) (B := b.w) hpos
  obtain ⟨z,_,g1,g2⟩ := k6 z0 u0
  refine ⟨z,?_⟩
  have h1 := hu z g2
  have h2 := yt h (h0 z g1) hi
  have h3 := fp (f := b.f z t) (fun k hk => Ax h hk) hi
  rw [y] at h2
  rw [F];grind
end Bd
def uQ (n : Nat) (S : Nat → Rat) (y : Rat) (k : Nat) : Rat := c9 (oJ S n y k - S k)
def ou (n : Nat) (S M : Nat → Rat) (y : Rat) (k : Nat) : Rat := M k * (uQ n S y k * (y - S k) - uQ n S y k * uQ n S y k / 2)
def pf (n : Nat) (S M : Nat → Rat) (y : Rat) : Rat := ac (ou n S M y) n
theorem xU {n : Nat} {S : Nat → Rat} {x y : Rat} {k : Nat} (h : ∀ i,i + 1 < n → S i < S (i + 1)) : 0 ≤ (uQ n S y k - uQ n S x k) * (y - S k - uQ n S y k) := by
 by_cases hk : k + 1 < n
 ·have := h k hk
  simp only [uQ,oJ,if_pos hk,c9,eP]
  by_cases h1 : S (k + 1) < y
  ·have e1 : (if 0 < (if S (k + 1) < y then S (k + 1) else y) - S k then (if S (k + 1) < y then S (k + 1) else y) - S k else 0) = S (k + 1) - S k := by grind
   rw [e1]
   refine Rat.mul_nonneg ?_ (by grind)
   grind
  ·by_cases h2 : S k < y
   ·have e1 : (if 0 < (if S (k + 1) < y then S (k + 1) else y) - S k then (if S (k + 1) < y then S (k + 1) else y) - S k else 0) = y - S k := by grind
    rw [e1];grind
   ·have e1 : (if 0 < (if S (k + 1) < y then S (k + 1) else y) - S k then (if S (k + 1) < y then S (k + 1) else y) - S k else 0) = 0 := by grind
    rw [e1]
    have : 0 ≤ (if 0 < (if S (k + 1) < x then S (k + 1) else x) - S k then (if S (k + 1) < x then S (k + 1) else x) - S k else 0) := by grind
    have := Rat.mul_nonneg this (show 0 ≤ -(y - S k) by grind)
    grind
 ·simp only [uQ,oJ,if_neg hk,c9]
  by_cases h2 : S k < y
  ·have e1 : (if 0 < y - S k then y - S k else 0) = y - S k := by grind
   rw [e1];grind
  ·have e1 : (if 0 < y - S k then y - S k else 0) = 0 := by grind
   rw [e1]
   have : 0 ≤ (if 0 < x - S k then x - S k else 0) := by grind
   have := Rat.mul_nonneg this (show 0 ≤ -(y - S k) by grind)
   grind
theorem z7 (x : Rat) : 0 ≤ x * x := by
 rcases Classical.em (0 ≤ x) with h | h
 ·exact Rat.mul_nonneg h h
 ·have := Rat.mul_nonneg (show 0 ≤ -x by grind) (show 0 ≤ -x by grind)
  grind
theorem vG {n : Nat} {S M : Nat → Rat} (h : Crv n S M) (x y : Rat) : cz n S M x * (y - x) ≤ pf n S M y - pf n S M x ∧ (pf n S M y - pf n S M x = cz n S M x * (y - x) → cz n S M y = cz n S M x) := by
 have hv : ∀ z,cz n S M z = ac (fun k => M k * uQ n S z k) n := fun z => by
  rw [cz,fH h.asc];rfl
 have hgap : pf n S M y - pf n S M x - cz n S M x * (y - x) = ac (fun k => M k * ((uQ n S y k - uQ n S x k) * (y - S k - uQ n S y k) + (uQ n S y k - uQ n S x k) * (uQ n S y k - uQ n S x k) / 2)) n := by
  rw [hv,pf,pf]
  have key : ∀ m,ac (ou n S M y) m - ac (ou n S M x) m - ac (fun k => M k * uQ n S x k) m * (y - x) = ac (fun k => M k * ((uQ n S y k - uQ n S x k) * (y - S k - uQ n S y k) + (uQ n S y k - uQ n S x k) * (uQ n S y k - uQ n S x k) / 2)) m := by
   intro m
   induction m with
   |zero => simp only [ac];grind
   |succ m ih => simp only [ac,ou] at *;grind
  exact key n
 have hterm : ∀ k,k < n → 0 ≤ M k * ((uQ n S y k - uQ n S x k) * (y - S k - uQ n S y k) + (uQ n S y k - uQ n S x k) * (uQ n S y k - uQ n S x k) / 2) := fun k hk => by
  have h1 := xU (n := n) (S := S) (x := x) (y := y) (k := k) h.asc
  have h2 := z7 (uQ n S y k - uQ n S x k)
  exact Rat.mul_nonneg (h.nn k hk) (by grind)
 have hnn := c7 hterm
 refine ⟨by grind,fun he => ?_⟩
 rw [hv,hv]
 refine aT fun k hk => ?_
 have h0 : ac (fun k => M k * ((uQ n S y k - uQ n S x k) * (y - S k - uQ n S y k) + (uQ n S y k - uQ n S x k) * (uQ n S y k - uQ n S x k) / 2)) n = 0 := by rw [← hgap,he];grind
 have h1 := fp hterm hk
 rw [h0] at h1
 have h2 := hterm k hk
 have h3 : M k * ((uQ n S y k - uQ n S x k) * (y - S k - uQ n S y k) + (uQ n S y k - uQ n S x k) * (uQ n S y k - uQ n S x k) / 2) = 0 := by grind
 rcases Rat.mul_eq_zero.1 h3 with h4 | h4
 ·rw [h4];grind
 ·have h5 := xU (n := n) (S := S) (x := x) (y := y) (k := k) h.asc
  have h6 := z7 (uQ n S y k - uQ n S x k)
  have h7 : (uQ n S y k - uQ n S x k) * (uQ n S y k - uQ n S x k) = 0 := by grind
  rcases Rat.mul_eq_zero.1 h7 with h8 | h8 <;> rw [show uQ n S y k = uQ n S x k by grind]
namespace Bd
variable {b : Bd}
def U (b : Bd) (z t : Rat) : Rat := ac (fun i => pf (b.n i) (b.S i) (b.M i) (b.y z t i)) b.N - b.w * (z + t * b.A)
theorem least_energy (h : b.Ok) {z t : Rat} (hb : b.Bal z t) (z' t' : Rat) : b.U z t ≤ b.U z' t' ∧ (b.U z t = b.U z' t' → ∀ i,i < b.N → b.f z' t' i = b.f z t i) := by
 have h1 : b.U z' t' - b.U z t = ac (fun i => pf (b.n i) (b.S i) (b.M i) (b.y z' t' i) - pf (b.n i) (b.S i) (b.M i) (b.y z t i) - b.f z t i * (b.y z' t' i - b.y z t i)) b.N := by
  have key : ∀ m,ac (fun i => pf (b.n i) (b.S i) (b.M i) (b.y z' t' i) - pf (b.n i) (b.S i) (b.M i) (b.y z t i) - b.f z t i * (b.y z' t' i - b.y z t i)) m =
    ac (fun i => pf (b.n i) (b.S i) (b.M i) (b.y z' t' i)) m - ac (fun i => pf (b.n i) (b.S i) (b.M i) (b.y z t i)) m - (ac (b.f z t) m * (z' - z) + ac (fun i => b.f z t i * b.X i) m * (t' - t)) := by
   intro m
   induction m with
   |zero => simp only [ac];grind
   |succ m ih =>
    simp only [ac] at *
    have : b.y z' t' m - b.y z t m = (z' - z) + (t' - t) * b.X m := by rw [y,y];grind
    rw [this];grind
  rw [key,U,U]
  have e1 : ac (b.f z t) b.N = b.w := hb.1
  have e2 : ac (fun i => b.f z t i * b.X i) b.N = b.w * b.A := hb.2
  rw [e1,e2];grind
 have hterm : ∀ i,i < b.N → 0 ≤ pf (b.n i) (b.S i) (b.M i) (b.y z' t' i) - pf (b.n i) (b.S i) (b.M i) (b.y z t i) - b.f z t i * (b.y z' t' i - b.y z t i) := fun i hi => by
  have := (vG (h.crv i hi) (b.y z t i) (b.y z' t' i)).1
  rw [f];grind
 have hnn := c7 hterm
 refine ⟨by grind,fun he i hi => ?_⟩
 have h2 := fp hterm hi
 rw [← h1,he] at h2
 have h3 := hterm i hi
 exact (vG (h.crv i hi) (b.y z t i) (b.y z' t' i)).2 (by rw [f] at h2 h3;grind)
end Bd
def eH (S M : Nat → Rat) (y : Rat) (k : Nat) : Rat := if y - S k < 0 then 0 else M k - aQ M k
def xp (n : Nat) (S M : Nat → Rat) (y : Rat) : Rat := ac (eH S M y) n
theorem y5 {c : CR} (hc : c.Lim) (q : Rat) (k : Nat) : HQ (eH c.s c.m q k) 27 := by
 rw [eH]
 split
 ·exact HQ.zero.mono (by omega)
 ·exact lJ hc k
noncomputable def AW : Array Tmp × Code × Code := (j4 ((Tryz.f174.body).getD .skip)).getD (#[],.skip,.skip)
set_option maxRecDepth 20000 in
theorem qi {s0 : St} {q0 q2 q3 g4 g7 b4 : Nat} {x2 x3 x1004 : Cont} {bf V0 V1 CH FA : RR} (hadd : Ret Tryz.prog .shared 106 [.agg (eR V0),.agg (eR CH)] (.agg (eR V1))) :
  sD Tryz.prog (s0.over [(7,.ptr 1007 g7 0 0)] []) q0 q2 q3 g4 g7 b4 19 20 AW.2.1 AW.2.2 x2 x3 x1004 bf V0 V1 CH FA := by
 intro own hf kT hPost
 have ho : own = (St.over { reg := fun _ => .raw undef,own := own } [] (zW q0 q2 q3 g4 g7 b4 (bE #[19,20] AW.2.1 AW.2.2 .ready none (s0.over [(7,.ptr 1007 g7 0 0)] []).reg) x2 x3 x1004 bf V0)).own := congrArg St.own (Fit.over hf).symm
 rw [ho]
 clear ho hf
 generalize (St.mk (fun _ => .raw undef) own) = s1
 repeat refine aa rfl ?_
 refine ⟨rfl,?_⟩
 repeat refine aa rfl ?_
 refine ap rfl rfl rfl hadd rfl rfl ?_
 repeat refine aa rfl ?_
 exact hPost _ ⟨rfl,rfl,rfl,rfl,rfl,rfl,trivial⟩
set_option maxRecDepth 20000 in
theorem um (c : CR) (hc : c.Lim) (h0 : bV c = 0) (y : RR) {q : Rat} {n : Nat} [hy : Vq y q n] (hn : n ≤ 100000) : Ret Tryz.prog .shared 174 [.agg (eC c),.agg (eR y)] (.tup [.agg (eR (ofQ (xp c.S.length c.s c.m q))),I 0]) := by
 have hcc := c_ c hc
 rw [h0] at hcc
 obtain ⟨h40,hSM,-,hasc⟩ := cH h0
 have hz := dl 0 (by decide) (by decide)
 rw [show (((0 : Int) : Rat)) = 0 from rfl] at hz
 have hsum : ∀ i,i ≤ 40 → Vq (ofQ (ac (eH c.s c.m q) i)) (ac (eH c.s c.m q) i) (i * (27 + 1) + 4) := fun i _ => Vq.ofQ (h := bh i fun k _ => y5 hc q k)
 refine Ret.of_pwpR layOk mixed Go.Proofs.Tryz.func174 rfl (by decide) rfl rfl rfl ?_
 repeat refine aa rfl ?_
 refine aY rfl rfl rfl hcc rfl rfl rfl ?_
 repeat refine aa rfl ?_
 refine ap rfl rfl rfl hz rfl rfl ?_
 (repeat ((fail_if_success (with_reducible refine aM 5 ?_));refine cF rfl ?_))
 refine aB (Ghost.move (k := 2) (k' := 1002) (t := 2) rfl rfl rfl rfl) ?_
 refine aB (Ghost.move (k := 3) (k' := 1003) (t := 3) rfl rfl rfl rfl) ?_
 refine aB (Ghost.move (k := 4) (k' := 1004) (t := 4) rfl rfl rfl rfl) ?_
 refine aB (Ghost.move (k := 7) (k' := 1007) (t := 7) rfl rfl rfl rfl) ?_
 ((repeat ((fail_if_success (with_reducible refine aM 5 ?_));refine cF rfl ?_));refine ay 2 ?_)
 iterate 2 refine aa rfl ?_
 refine aS ?_
 refine aI rfl (bB layOk rfl rfl Go.Proofs.Tryz.func162 rfl (by decide) rfl rfl ?_)
 (repeat ((fail_if_success (with_reducible refine aM 1 ?_));refine cF rfl ?_))
 refine aB (Ghost.move (k := 2) (k' := 2002) (t := 2) rfl rfl rfl rfl) ?_
 refine aB (Ghost.move (k := 3) (k' := 2003) (t := 3) rfl rfl rfl rfl) ?_
 repeat refine aa rfl ?_
 refine n7 rfl rfl ?_
 refine aD ?_
 repeat refine aa rfl ?_
 refine gR [(7,.ptr 1007 1 0 0),(4,.ptr 1004 1 0 0),(18,.clo 191 [.ptr 2002 1 0 0,.ptr 2003 1 0 0])] [(2002,1,⟨120,2,[eC c],2⟩),(2003,1,⟨26,4,[eR y],2⟩),(1004,1,⟨26,4,[[.bool false,.nil,.bool false,.nil]],2⟩),(1007,1,⟨26,4,[eR (ofQ 0)],2⟩)] ⟨rfl,rfl,rfl,rfl,rfl,rfl,rfl,trivial⟩ ?_
 intro s3
 refine p5 (ni (ps := #[19,20]) (asg := AW.2.1) (body := AW.2.2) 2000 rfl Go.Proofs.Tryz.func191 rfl rfl rfl rfl rfl rfl ?_)
 generalize hq0 : (s3.own 2000).1 + 1 = q0
 refine lR (q := q) (n := n) (q0 := q0) (q2 := 1) (q3 := 1) (g4 := 1) (g7 := 1) c hc y hy (by omega) hSM (fun i => ofQ (ac (eH c.s c.m q) i)) _ ⟨by rw [← hq0];rfl,rfl,rfl,rfl,rfl,trivial⟩ ?_ ?_
 ·intro i hi hpos b4 bf
  have hadd := dw (ofQ (ac (eH c.s c.m q) i)) (ofQ (c.m i - aQ c.m i)) (hx := hsum i (by omega)) (hy := Vq.ofQ (h := lJ hc i)) (by omega) (by decide)
  rw [show ac (eH c.s c.m q) i + (c.m i - aQ c.m i) = ac (eH c.s c.m q) (i + 1) by rw [ac,eH,if_neg hpos]] at hadd
  exact qi (s0 := s3.over [(4,.ptr 1004 1 0 0),(18,.clo 191 [.ptr 2002 1 0 0,.ptr 2003 1 0 0])] []) hadd
 ·intro i hi hor b4 bf s2 hf
  have hres : ac (eH c.s c.m q) i = xp c.S.length c.s c.m q := nh hasc (fun k hk => by rw [eH,if_pos hk]) hi hor
  dsimp only at hf
  rw [hres] at hf
  rw [← Fit.over (l := []) hf]
  repeat refine aa rfl ?_
  exact aK rfl rfl rfl
def Weak (a b : PV) : Prop := ∀ (w : World) (ok : Nat → Prop) (v : Value),DRep w ok a v → DRep w ok b v
theorem Weak.rfl (a : PV) : Weak a a := fun _ _ _ h => h
theorem Weak.nil : Weak .nil (.sl []) := fun w ok v h => by cases h;exact .sl0 none 0
inductive WeakL : List PV → List PV → Prop
 |nil : WeakL [] []
 |cons {a b : PV} {l m : List PV} : Weak a b → WeakL l m → WeakL (a :: l) (b :: m)
theorem WeakL.refl : ∀ l,WeakL l l
 |[] => .nil
 |a :: l => .cons (.rfl a) (WeakL.refl l)
theorem WeakL.spec {l m : List PV} (h : WeakL l m) : l.length = m.length ∧ ∀ (i : Nat) (b : PV),m[i]? = some b → ∃ a,l[i]? = some a ∧ Weak a b := by
 induction h with
 |nil => exact ⟨by rfl,fun i b hb => by simp at hb⟩
 |cons h1 _ ih =>
  refine ⟨by simp [ih.1],fun i b hb => ?_⟩
  cases i with
  |zero => simp at hb;subst hb;exact ⟨_,by rfl,h1⟩
  |succ i => simpa using ih.2 i b (by simpa using hb)
theorem WeakL.agg {l m : List PV} (h : WeakL l m) : Weak (.agg l) (.agg m) := fun w ok v hv => by
 cases hv with
 |agg _ vs hl hd =>
  refine .agg _ vs (by rw [← h.spec.1];exact hl) fun i c u hc hu => ?_
  obtain ⟨a,ha,hw⟩ := h.spec.2 i c hc
  exact hw _ _ _ (hd i a u ha hu)
theorem WeakL.tup {l m : List PV} (h : WeakL l m) : Weak (.tup l) (.tup m) := fun w ok v hv => by
 cases hv with
 |tup _ vs hl hd =>
  refine .tup _ vs (by rw [← h.spec.1];exact hl) fun i c u hc hu => ?_
  obtain ⟨a,ha,hw⟩ := h.spec.2 i c hc
  exact hw _ _ _ (hd i a u ha hu)
theorem Ret.weak {P : Program} {m : Mode} {f : FuncId} {pargs pargs' : List PV} {r r' : PV} (h : Ret P m f pargs r') (ha : WeakL pargs' pargs) (hr : Weak r' r) : Ret P m f pargs' r := by
 obtain ⟨hc,h⟩ := h
 refine ⟨hc,fun w X args hg hX hl hargs => ?_⟩
 refine (h w X args hg hX (by rw [← ha.spec.1];exact hl) fun i c v e1 e2 => ?_).mono ?_
 ·obtain ⟨a,e3,hw⟩ := ha.spec.2 i c e1
  exact hw _ _ _ (hargs i a v e3 e2)
 ·rintro e w' ⟨u,h1,h2,h3⟩
  exact ⟨u,h1,h2,hr _ _ _ h3⟩
def zN : List PV := [.bool false,.nil,.bool false,.nil]
theorem eJ : WeakL zN (eR RR.zero) := .cons (.rfl _) (.cons .nil (.cons (.rfl _) (.cons .nil .nil)))
theorem aV (z : Int) (h : i64 z) : Ret Tryz.prog .shared 95 [I z] (.agg (eR (ofQ (z : Rat)))) := by
 have ho := wy z h.1 h.2
 have hw := nG (bL z) (by have := lL (z := z) (by obtain ⟨h1,h2⟩ := h;omega);omega)
 rw [bS] at hw
 generalize ofQ (z : Rat) = X at *
 generalize bL z = Z at *
 refine Ret.of_pwp layOk mixed Go.Proofs.Tryz.func95 rfl (by decide) rfl rfl ?_
 repeat refine aa rfl ?_
 refine ap rfl rfl rfl ho rfl rfl ?_
 repeat refine aa rfl ?_
 refine ap rfl rfl rfl hw rfl rfl ?_
 repeat refine aa rfl ?_
 exact aK rfl rfl rfl
theorem l6 (x : RR) {p : Rat} {n : Nat} [hx : Vq x p n] (hn : n ≤ 8000000) : Ret Tryz.prog .shared 98 [.agg (eR x)] (I (sgn p)) := by
 have hc := nV x RR.zero hn (by decide)
 rw [Rat.sub_eq_add_neg,Rat.neg_zero,Rat.add_zero] at hc
 have hc2 := hc.weak (.cons (.rfl _) (.cons eJ.agg .nil)) (.rfl _)
 generalize sgn p = g at *
 refine Ret.of_pwp layOk mixed Go.Proofs.Tryz.func98 rfl (by decide) rfl rfl ?_
 repeat refine aa rfl ?_
 refine aY rfl rfl rfl hc2 rfl rfl rfl ?_
 repeat refine aa rfl ?_
 exact bu rfl rfl rfl
theorem pQ (x y : RR) {p q : Rat} {n m : Nat} [hx : Vq x p n] [hy : Vq y q m] (hn : n ≤ 20000000) (hm : m ≤ 20000000) (h0 : q ≠ 0) : Ret Tryz.prog .shared 99 [.agg (eR x),.agg (eR y)] (.agg (eR (ofQ (p / q)))) := by
 have hq := wM x y hn hm
 rw [if_neg h0] at hq
 generalize ofQ (p / q) = X at *
 refine Ret.of_pwp layOk mixed Go.Proofs.Tryz.func99 rfl (by decide) rfl rfl ?_
 repeat refine aa rfl ?_
 refine ap rfl rfl rfl hq rfl rfl ?_
 repeat refine aa rfl ?_
 exact aK rfl rfl rfl
theorem Br (x : RR) {p : Rat} {n : Nat} [hx : Vq x p n] (hn : n ≤ 10000000) : Ret Tryz.prog .shared 166 [.agg (eR x)] (.agg (eR (ofQ (-p)))) := by
 have hs := jX RR.zero x (by decide) hn
 rw [Rat.sub_eq_add_neg,Rat.zero_add] at hs
 have hs2 := hs.weak (.cons eJ.agg (.cons (.rfl _) .nil)) (.rfl _)
 generalize ofQ (-p) = X at *
 refine Ret.of_pwp layOk mixed Go.Proofs.Tryz.func166 rfl (by decide) rfl rfl ?_
 repeat refine aa rfl ?_
 refine ap rfl rfl rfl hs2 rfl rfl ?_
 repeat refine aa rfl ?_
 exact aK rfl rfl rfl
theorem yB (x : RR) {p : Rat} {n : Nat} [hx : Vq x p n] (hn : n ≤ 10000000) : Ret Tryz.prog .shared 171 [.agg (eR x)] (.agg (eR (ofQ p))) := by
 have hs := dw x RR.zero (by omega) (by decide)
 rw [Rat.add_zero] at hs
 have hs2 := hs.weak (.cons (.rfl _) (.cons eJ.agg .nil)) (.rfl _)
 generalize ofQ p = X at *
 refine Ret.of_pwp layOk mixed Go.Proofs.Tryz.func171 rfl (by decide) rfl rfl ?_
 repeat refine aa rfl ?_
 refine ap rfl rfl rfl hs2 rfl rfl ?_
 repeat refine aa rfl ?_
 exact aK rfl rfl rfl
structure SR.Lim (s : SR) : Prop where
 x : i64 s.x
 c : s.c.sz 12
 k : s.k.Lim
def yQ (s : SR) (z t : Rat) : Rat := s.c.val + (z + t * (s.x : Rat))
theorem sU {s : SR} (hs : s.Lim) {z t : Rat} {n m : Nat} (hz : HQ z n) (ht : HQ t m) : HQ (yQ s z t) (13 + (n + (m + 4) + 1) + 1) := by
 have hx : Zb s.x := a8 hs.x.1 hs.x.2
 exact @HQ.add _ _ 13 (n + (m + 4) + 1) hs.c.v.hq (@HQ.add _ _ n (m + 4) hz (@HQ.mul _ _ m 4 ht HQ.int))
structure AR where
 z : RR
 t : RR
def eA (a : AR) : List PV := eR a.z ++ eR a.t
class Va (a : AR) (z t : outParam Rat) (n m : outParam Nat) : Prop where
 z : Vq a.z z n
 t : Vq a.t t m
theorem jE (s : SR) (hs : s.Lim) (a : AR) {z t : Rat} {n m : Nat} [ha : Va a z t n m] (hn : n ≤ 1000000) (hm : m ≤ 1000000) : Ret Tryz.prog .shared 85 [.agg (eS s),.agg (eA a)] (.agg (eR (ofQ (yQ s z t)))) := by
 have hx : Zb s.x := a8 hs.x.1 hs.x.2
 have hzh := ha.z.hq
 have hth := ha.t.hq
 have hw := aV s.x hs.x
 have h1 := eQ a.t (ofQ (s.x : Rat)) (hx := ha.t) (by omega) (by decide)
 have v1 : Vq (ofQ (t * (s.x : Rat))) (t * (s.x : Rat)) (m + 1 + 4) := Vq.ofQ (h := @HQ.mul _ _ (m + 1) 4 hth HQ.int)
 have h2 := dw a.z (ofQ (t * (s.x : Rat))) (hx := ha.z) (hy := v1) (by omega) (by omega)
 have v2 : Vq (ofQ (z + t * (s.x : Rat))) (z + t * (s.x : Rat)) (n + 1 + (m + 1 + 4) + 1) := Vq.ofQ (h := @HQ.add _ _ (n + 1) (m + 1 + 4) hzh (@HQ.mul _ _ (m + 1) 4 hth HQ.int))
 have h3 := dw s.c (ofQ (z + t * (s.x : Rat))) (hx := hs.c.v) (hy := v2) (by decide) (by omega)
 rw [yQ]
 obtain ⟨x,c,k⟩ := s
 obtain ⟨az,at'⟩ := a
 simp only at *
 generalize ofQ (c.val + (z + t * (x : Rat))) = X3 at *
 generalize ofQ (z + t * (x : Rat)) = X2 at *
 generalize ofQ (t * (x : Rat)) = X1 at *
 generalize ofQ (x : Rat) = X0 at *
 refine Ret.of_pwp layOk mixed Go.Proofs.Tryz.func85 rfl (by decide) rfl rfl ?_
 repeat refine aa rfl ?_
 refine ah 12 [5,6,7,8,9,10,11,12,13,14,15,16] (by decide +kernel) ?_
 repeat refine aa rfl ?_
 refine ap rfl rfl rfl hw rfl rfl ?_
 repeat refine aa rfl ?_
 refine ap rfl rfl rfl h1 rfl rfl ?_
 repeat refine aa rfl ?_
 refine ap rfl rfl rfl h2 rfl rfl ?_
 repeat refine aa rfl ?_
 refine ap rfl rfl rfl h3 rfl rfl ?_
 repeat refine aa rfl ?_
 exact aK rfl rfl rfl
def fQ (s : SR) (z t : Rat) : Rat := cz s.k.S.length s.k.s s.k.m (yQ s z t)
theorem tz (s : SR) (hs : s.Lim) (hk : bV s.k = 0) (a : AR) {z t : Rat} {n m : Nat} [ha : Va a z t n m] (hn : n + m ≤ 90000) : Ret Tryz.prog .shared 83 [.agg (eS s),.agg (eA a)] (.agg (eR (ofQ (fQ s z t)))) := by
 have h1 := jE s hs a (by omega) (by omega)
 have v1 : Vq (ofQ (yQ s z t)) (yQ s z t) (13 + (n + 1 + (m + 1 + 4) + 1) + 1) := Vq.ofQ (h := sU hs ha.z.hq ha.t.hq)
 have h2 := uF s.k hs.k hk (ofQ (yQ s z t)) (hy := v1) (by omega)
 rw [fQ]
 generalize ofQ (cz s.k.S.length s.k.s s.k.m (yQ s z t)) = X2 at *
 generalize ofQ (yQ s z t) = X1 at *
 obtain ⟨x,c,k⟩ := s
 obtain ⟨az,at'⟩ := a
 simp only at *
 refine Ret.of_pwp layOk mixed Go.Proofs.Tryz.func83 rfl (by decide) rfl rfl ?_
 repeat refine aa rfl ?_
 refine bM [5] [9,10] (by decide +kernel) ?_
 repeat refine aa rfl ?_
 refine ap rfl rfl rfl h1 rfl rfl ?_
 repeat refine aa rfl ?_
 refine ap rfl rfl rfl h2 rfl rfl ?_
 repeat refine aa rfl ?_
 exact aK rfl rfl rfl
theorem yw (x : Int) : Ret Tryz.prog .shared 76 [I x] (.bool (decide (x < -1000000 ∨ 1000000 < x))) := by
 by_cases h1 : x < -1000000
 ·rw [decide_eq_true (.inl h1)]
  refine Ret.of_pwp layOk mixed Go.Proofs.Tryz.func76 rfl (by decide) rfl rfl ?_
  repeat refine aa rfl ?_
  refine fU rfl rfl rfl ?_ ?_<;>intro h
  ·repeat refine aa rfl ?_
   exact bm rfl rfl rfl
  ·exact absurd h1 (of_decide_eq_false h)
 ·rw [show decide (x < -1000000 ∨ 1000000 < x) = decide (1000000 < x) by rw [decide_eq_decide];omega]
  refine Ret.of_pwp layOk mixed Go.Proofs.Tryz.func76 rfl (by decide) rfl rfl ?_
  repeat refine aa rfl ?_
  refine fU rfl rfl rfl ?_ ?_<;>intro h
  ·exact absurd (of_decide_eq_true h) h1
  ·repeat refine aa rfl ?_
   exact bm rfl rfl rfl
theorem k7 (x : RR) {p : Rat} {m : Nat} [hx : Vq x p m] (hm : m ≤ 1000000) (n : Int) (h0 : 0 ≤ n) (h1 : n ≤ 1000000000) : Ret Tryz.prog .shared 77 [.agg (eR x),I n] (.bool (decide (p < -(n : Rat) ∨ (n : Rat) < p))) := by
 have hw1 := aV (-n) ⟨by omega,by omega⟩
 have hw2 := aV n ⟨by omega,by omega⟩
 have z1 : Zb (-n) := a8 (by omega) (by omega)
 have z2 : Zb n := a8 (by omega) (by omega)
 have hc1 := nV x (ofQ ((-n : Int) : Rat)) (by omega) (by decide)
 have hc2 := nV x (ofQ (n : Rat)) (by omega) (by decide)
 have hn : IntKind.i64.wrap (0 - n) = -n := by rw [wrap_i64 (by omega) (by omega)];omega
 have e1 := cg (p - ((-n : Int) : Rat))
 have e2 := gx (p - (n : Rat))
 have en : (((-n : Int)) : Rat) = -(n : Rat) := by push_cast;rfl
 have key : decide (p < -(n : Rat) ∨ (n : Rat) < p) = (decide (sgn (p - ((-n : Int) : Rat)) < 0) || decide (0 < sgn (p - (n : Rat)))) := by
  rw [← Bool.decide_or,decide_eq_decide,e1,e2,en]
  constructor
  ·rintro (h | h)
   ·left;grind
   ·right;grind
  ·rintro (h | h)
   ·left;grind
   ·right;grind
 rw [key]
 generalize sgn (p - ((-n : Int) : Rat)) = g1 at *
 generalize sgn (p - (n : Rat)) = g2 at *
 generalize ofQ ((-n : Int) : Rat) = W1 at *
 generalize ofQ (n : Rat) = W2 at *
 refine Ret.of_pwp layOk mixed Go.Proofs.Tryz.func77 rfl (by decide) rfl rfl ?_
 repeat refine aa rfl ?_
 refine ah 14 [5,6,7,8,9,10,11,12,13,14,15,16,17,4] (by decide +kernel) ?_
 repeat refine aa rfl ?_
 rw [hn]
 refine ap rfl rfl rfl hw1 rfl rfl ?_
 repeat refine aa rfl ?_
 refine aY rfl rfl rfl hc1 rfl rfl rfl ?_
 repeat refine aa rfl ?_
 refine fU rfl rfl rfl ?_ ?_<;>intro h
 ·rw [h]
  clear h
  repeat refine aa rfl ?_
  exact bm rfl rfl rfl
 ·rw [h]
  clear h
  repeat refine aa rfl ?_
  refine ap rfl rfl rfl hw2 rfl rfl ?_
  repeat refine aa rfl ?_
  refine aY rfl rfl rfl hc2 rfl rfl rfl ?_
  repeat refine aa rfl ?_
  exact bm rfl rfl rfl
def cm {α : Type} (f : α → Int) : List α → Int
 |[] => 0
 |s :: r => if f s = 0 then cm f r else f s
theorem pl {α : Type} (f : α → Int) {l : List α} {i : Nat} {s : α} (h : l[i]? = some s) : cm f (l.drop i) = if f s = 0 then cm f (l.drop (i + 1)) else f s := by
 obtain ⟨hl,rfl⟩ := List.getElem?_eq_some_iff.1 h
 rw [List.drop_eq_getElem_cons hl,cm]
theorem iA {α : Type} {f : α → Int} : ∀ {l : List α},cm f l = 0 → ∀ s ∈ l,f s = 0
 |[],_,s,hs => by cases hs
 |a :: l,h,s,hs => by
  rw [cm] at h
  by_cases ha : f a = 0
  ·rw [if_pos ha] at h
   rcases List.mem_cons.1 hs with rfl | hs
   ·exact ha
   ·exact iA h s hs
  ·rw [if_neg ha] at h;exact absurd h ha
def kt (s : SR) : Int := if (s.x < -1000000 ∨ 1000000 < s.x) ∨ (s.c.val < -((10000000 : Int) : Rat) ∨ ((10000000 : Int) : Rat) < s.c.val) then 2 else bV s.k
def bQ (l : List SR) : Int := if 100 < l.length then 8 else cm kt l
def fW (l : List SR) : Prop := (∀ s ∈ l,s.Lim) ∧ l.length ≤ 1000000000
set_option maxRecDepth 20000 in
theorem mI (l : List SR) (hl : fW l) : Ret Tryz.prog .shared 18 [.sl (l.map eS)] (I (bQ l)) := by
 have hml : (l.map eS).length = l.length := by simp
 generalize hE : bQ l = E
 rw [bQ] at hE
 obtain ⟨hs,hll⟩ := hl
 refine Ret.of_pwp layOk mixed Go.Proofs.Tryz.func18 rfl (by decide) rfl rfl ?_
 repeat refine aa rfl ?_
 refine ab rfl ?_ ?_<;>intro h
 ·have h1 := of_decide_eq_true h
  rw [if_pos (by omega)] at hE
  subst hE
  repeat refine aa rfl ?_
  exact bu rfl rfl rfl
 have h1 : ¬ 100 < l.length := by have h1 := of_decide_eq_false h;omega
 clear h
 rw [if_neg h1] at hE
 repeat refine aa rfl ?_
 refine ao (fun i : Nat => i ≤ l.length ∧ cm kt (l.drop i) = E) (fun i => [(9,.sl (l.map eS)),(10,I l.length),(11,I (i : Nat))]) (fun _ => []) (fun i => l.length - i) 0 ⟨Nat.zero_le _,by rw [List.drop_zero];exact hE⟩ ⟨rfl,by rw [← hml];rfl,rfl,trivial⟩ ?_
 intro i s ⟨hi,hF⟩
 repeat refine aa rfl ?_
 refine ab rfl ?_ ?_<;>intro h
 ·have hlt : i < l.length := by have := of_decide_eq_true h;omega
  clear h
  obtain ⟨x,hx⟩ := aH hlt
  have hx' := hs x (List.mem_of_getElem? hx)
  rw [pl _ hx] at hF
  have hfa := yw x.x
  have hbe := k7 x.c (hx := hx'.c.v) (by decide) 10000000 (by decide) (by decide)
  have hcc := c_ x.k hx'.k
  have hw := jx i
  have hse : kt x = kt x := rfl
  conv at hse => rhs;rw [kt]
  generalize kt x = se at *
  generalize bV x.k = ce at *
  by_cases hq1 : x.x < -1000000 ∨ 1000000 < x.x
  ·rw [decide_eq_true hq1] at hfa
   rw [if_pos (.inl hq1)] at hse
   subst hse
   rw [if_neg (by decide)] at hF
   subst hF
   repeat refine aa rfl ?_
   refine bO rfl rfl rfl rfl rfl rfl rfl hx rfl ?_
   repeat refine aa rfl ?_
   refine aY rfl rfl rfl hfa rfl rfl rfl ?_
   repeat refine aa rfl ?_
   exact bu rfl rfl rfl
  rw [decide_eq_false hq1] at hfa
  by_cases hq2 : x.c.val < -((10000000 : Int) : Rat) ∨ ((10000000 : Int) : Rat) < x.c.val
  ·rw [decide_eq_true hq2] at hbe
   rw [if_pos (.inr hq2)] at hse
   subst hse
   rw [if_neg (by decide)] at hF
   subst hF
   repeat refine aa rfl ?_
   refine bO rfl rfl rfl rfl rfl rfl rfl hx rfl ?_
   repeat refine aa rfl ?_
   refine aY rfl rfl rfl hfa rfl rfl rfl ?_
   repeat refine aa rfl ?_
   refine aY rfl rfl rfl hbe rfl rfl rfl ?_
   repeat refine aa rfl ?_
   exact bu rfl rfl rfl
  rw [decide_eq_false hq2] at hbe
  rw [if_neg (fun h => h.elim hq1 hq2)] at hse
  subst hse
  repeat refine aa rfl ?_
  refine bO rfl rfl rfl rfl rfl rfl rfl hx rfl ?_
  repeat refine aa rfl ?_
  refine aY rfl rfl rfl hfa rfl rfl rfl ?_
  repeat refine aa rfl ?_
  refine aY rfl rfl rfl hbe rfl rfl rfl ?_
  repeat refine aa rfl ?_
  refine aY rfl rfl rfl hcc rfl rfl rfl ?_
  repeat refine aa rfl ?_
  refine ab rfl ?_ ?_<;>intro h
  ·have h2 : se ≠ 0 := by simpa using h
   clear h
   rw [if_neg h2] at hF
   subst hF
   repeat refine aa rfl ?_
   exact bu rfl rfl rfl
  ·have h2 : se = 0 := by simpa using h
   clear h
   rw [if_pos h2] at hF
   repeat refine aa rfl ?_
   exact ⟨i + 1,⟨by omega,hF⟩,by omega,rfl,rfl,congrArg I hw,trivial⟩
 ·have hie : i = l.length := by have := of_decide_eq_false h;omega
  clear h
  rw [hie,List.drop_length,cm] at hF
  subst hF
  repeat refine aa rfl ?_
  exact bu rfl rfl rfl
theorem cd {α : Type} {l : List α} {k : Nat} {x : α} (hx : l[k]? = some x) : l.take (k + 1) = l.take k ++ [x] := by
 rw [List.take_add_one,hx];rfl
structure BR.Lim (b : BR) : Prop where
 w : i64 b.w
 a : b.a.sz 12
 l : fW b.l
def aU (b : BR) : Int := if (b.w < 1 ∨ 1000000000 < b.w) ∨ (b.a.val < -((1000000 : Int) : Rat) ∨ ((1000000 : Int) : Rat) < b.a.val) then 2 else bQ b.l
theorem bt (b : BR) (hb : b.Lim) : Ret Tryz.prog .shared 20 [.agg (eB b)] (I (aU b)) := by
 have hbe := k7 b.a (hx := hb.a.v) (by decide) 1000000 (by decide) (by decide)
 have hc := mI b.l hb.l
 generalize hE : aU b = E
 rw [aU] at hE
 obtain ⟨w,a,l⟩ := b
 simp only at *
 generalize bQ l = ce at *
 by_cases h1 : w < 1
 ·rw [if_pos (.inl (.inl h1))] at hE
  subst hE
  refine Ret.of_pwp layOk mixed Go.Proofs.Tryz.func20 rfl (by decide) rfl rfl ?_
  repeat refine aa rfl ?_
  refine fU rfl rfl rfl ?_ ?_<;>intro h
  ·repeat refine aa rfl ?_
   exact bu rfl rfl rfl
  ·exact absurd h1 (of_decide_eq_false h)
 by_cases h2 : 1000000000 < w
 ·rw [if_pos (.inl (.inr h2))] at hE
  subst hE
  refine Ret.of_pwp layOk mixed Go.Proofs.Tryz.func20 rfl (by decide) rfl rfl ?_
  repeat refine aa rfl ?_
  refine fU rfl rfl rfl ?_ ?_<;>intro h
  ·repeat refine aa rfl ?_
   exact bu rfl rfl rfl
  ·clear h
   repeat refine aa rfl ?_
   refine fU rfl rfl rfl ?_ ?_<;>intro h
   ·repeat refine aa rfl ?_
    exact bu rfl rfl rfl
   ·exact absurd h2 (of_decide_eq_false h)
 by_cases h3 : a.val < -((1000000 : Int) : Rat) ∨ ((1000000 : Int) : Rat) < a.val
 ·rw [decide_eq_true h3] at hbe
  rw [if_pos (.inr h3)] at hE
  subst hE
  refine Ret.of_pwp layOk mixed Go.Proofs.Tryz.func20 rfl (by decide) rfl rfl ?_
  repeat refine aa rfl ?_
  refine fU rfl rfl rfl ?_ ?_<;>intro h
  ·repeat refine aa rfl ?_
   exact bu rfl rfl rfl
  ·clear h
   repeat refine aa rfl ?_
   refine fU rfl rfl rfl ?_ ?_<;>intro h
   ·repeat refine aa rfl ?_
    exact bu rfl rfl rfl
   ·clear h
    repeat refine aa rfl ?_
    refine aY rfl rfl rfl hbe rfl rfl rfl ?_
    repeat refine aa rfl ?_
    exact bu rfl rfl rfl
 ·rw [decide_eq_false h3] at hbe
  rw [if_neg (fun h => h.elim (fun h => h.elim h1 h2) h3)] at hE
  subst hE
  refine Ret.of_pwp layOk mixed Go.Proofs.Tryz.func20 rfl (by decide) rfl rfl ?_
  repeat refine aa rfl ?_
  refine fU rfl rfl rfl ?_ ?_<;>intro h
  ·exact absurd (of_decide_eq_true h) h1
  ·clear h
   repeat refine aa rfl ?_
   refine fU rfl rfl rfl ?_ ?_<;>intro h
   ·exact absurd (of_decide_eq_true h) h2
   ·clear h
    repeat refine aa rfl ?_
    refine aY rfl rfl rfl hbe rfl rfl rfl ?_
    repeat refine aa rfl ?_
    refine aY rfl rfl rfl hc rfl rfl rfl ?_
    repeat refine aa rfl ?_
    exact bu rfl rfl rfl
set_option maxRecDepth 20000 in
theorem mw (l : List SR) (hl : fW l) (hc : bQ l = 0) (f : FuncId) (caps : List PV) (hcaps : ∃ c,caps = [.dref c 0]) (g : SR → RR) (hg : ∀ s ∈ l,Ret Tryz.prog .shared f [.agg (eS s),caps.headD .nil] (.agg (eR (g s)))) :
  Ret Tryz.prog .shared 81 [.sl (l.map eS),.clo f caps] (.tup [.sl ((l.map g).map eR),I 0]) := by
 have hck := mI l hl
 rw [hc] at hck
 have hml : (l.map eS).length = l.length := by simp
 obtain ⟨cc,rfl⟩ := hcaps
 simp only [List.headD_cons] at hg
 refine Ret.of_pwp layOk mixed Go.Proofs.Tryz.func81 rfl (by decide) rfl rfl ?_
 repeat refine aa rfl ?_
 refine aY rfl rfl rfl hck rfl rfl rfl ?_
 repeat refine aa rfl ?_
 refine aB (Ghost.nilreg (k := 7) (t := 7) 26 4 1 rfl rfl) ?_
 have hrows : ∀ (k : Nat) x,l[k]? = some x → ((l.take (k + 1)).map g).map eR = ((l.take k).map g).map eR ++ [eR (g x)] := fun k x hx => by rw [cd hx,List.map_append,List.map_append];rfl
 refine ao (fun k => k ≤ l.length) (fun k => [(1,.clo f [.dref cc 0]),(7,.als 7 (k + 1) 0 (((l.take k).map g).map eR).length),(15,.sl (l.map eS)),(16,I l.length),(17,I k)]) (fun k => [(7,k + 1,⟨26,4,((l.take k).map g).map eR,1⟩)]) (fun k => l.length - k) 0 (Nat.zero_le _) ⟨rfl,rfl,rfl,by rw [← hml];rfl,rfl,rfl,trivial⟩ ?_
 intro k s hk
 repeat refine aa rfl ?_
 refine ab rfl ?_ ?_<;>intro h
 ·have hlt : k < l.length := by have := of_decide_eq_true h;omega
  clear h
  obtain ⟨x,hx⟩ := aH hlt
  have hgx := hg x (List.mem_of_getElem? hx)
  have hw : IntKind.i64.wrap (((k : Nat) : Int) + 1) = ((k + 1 : Nat) : Int) := by have := hl.2;rw [wrap_i64 (by omega) (by omega)];omega
  have hll := hl.2
  repeat refine aa rfl ?_
  refine bO rfl rfl rfl rfl rfl rfl rfl hx rfl ?_
  repeat refine aa rfl ?_
  refine ap rfl rfl rfl hgx rfl rfl ?_
  repeat refine aa rfl ?_
  refine ax (br 1 rfl rfl rfl rfl rfl rfl rfl rfl rfl rfl rfl (by repeat' constructor) rfl ?_)
  repeat refine aa rfl ?_
  refine ax (bP 1 rfl rfl rfl rfl rfl rfl rfl rfl rfl rfl rfl (by repeat' constructor) (by intro row hr;first | (simp at hr;subst hr;rfl) | simp at hr) rfl rfl (by simp;omega) (by simp;omega) ?_)
  repeat refine aa rfl ?_
  refine ⟨k + 1,hlt,by omega,rfl,?_,rfl,rfl,congrArg I hw,?_,trivial⟩
  ·rw [hrows k x hx];rfl
  ·rw [hrows k x hx];rfl
 ·have hge : k = l.length := by have := of_decide_eq_false h;omega
  clear h
  repeat refine aa rfl ?_
  exact qP rfl (by repeat' constructor) rfl (by repeat' constructor) (by rw [hge,List.take_length];rfl)
theorem pn (s : SR) (hs : s.Lim) (hk : bV s.k = 0) (a : AR) {z t : Rat} {n m : Nat} [ha : Va a z t n m] (hn : n + m ≤ 90000) : Ret Tryz.prog .shared 82 [.agg (eS s),.dref (eA a) 0] (.agg (eR (ofQ (fQ s z t)))) := by
 have h1 := tz s hs hk a hn
 generalize ofQ (fQ s z t) = X at *
 obtain ⟨x,c,k⟩ := s
 obtain ⟨az,at'⟩ := a
 try simp only at *
 refine Ret.of_pwp layOk mixed Go.Proofs.Tryz.func82 rfl (by decide) rfl rfl ?_
 repeat refine aa rfl ?_
 refine ap rfl rfl rfl h1 rfl rfl ?_
 repeat refine aa rfl ?_
 exact aK rfl rfl rfl
theorem bR {l : List SR} (h : bQ l = 0) : ∀ s ∈ l,bV s.k = 0 := by
 intro s hs
 rw [bQ] at h
 split at h
 ·omega
 ·have := iA h s hs
  rw [kt] at this
  split at this
  ·omega
  ·exact this
def FL (l : List SR) (z t : Rat) : List RR := l.map fun s => ofQ (fQ s z t)
theorem fx (l : List SR) (hl : fW l) (hc : bQ l = 0) (a : AR) {z t : Rat} {n m : Nat} [ha : Va a z t n m] (hn : n + m ≤ 90000) : Ret Tryz.prog .shared 23 [.sl (l.map eS),.agg (eA a)] (.tup [.sl ((FL l z t).map eR),I 0]) := by
 have h1 := mw l hl hc 82 [.dref (eA a) 0] ⟨_,rfl⟩ (fun s => ofQ (fQ s z t)) fun s hs => pn s (hl.1 s hs) (bR hc s hs) a hn
 rw [← FL] at h1
 generalize FL l z t = X at *
 obtain ⟨az,at'⟩ := a
 refine Ret.of_pwp layOk mixed Go.Proofs.Tryz.func23 rfl (by decide) rfl rfl ?_
 (repeat ((fail_if_success (with_reducible refine aM 1 ?_));refine cF rfl ?_))
 refine aB (Ghost.data (k := 3) (t := 3) rfl rfl rfl rfl) ?_
 repeat refine aa rfl ?_
 refine ap rfl rfl rfl h1 rfl rfl ?_
 repeat refine aa rfl ?_
 exact aK rfl rfl rfl
def mu (l : List SR) : Prop := l.length ≤ 12 ∧ ∀ s ∈ l,s.k.S.length ≤ 8
theorem r6 {s : SR} (hs : s.Lim) (h8 : s.k.S.length ≤ 8) {z t : Rat} {n m : Nat} (hz : HQ z n) (ht : HQ t m) : HQ (fQ s z t) (8 * (n + m + 60) + 4) := by
 rw [fQ,cz]
 exact (bh s.k.S.length fun k _ => sC hs.k (sU hs hz ht) k).mono (by have := Nat.mul_le_mul h8 (show 13 + (n + (m + 4) + 1) + 1 + 32 + 1 ≤ n + m + 60 by omega);omega)
def dS : SR := ⟨0,RR.zero,⟨[],[]⟩⟩
def bd (b : BR) : Bd := { N := b.l.length,X := fun i => ((b.l.getD i dS).x : Rat),C := fun i => (b.l.getD i dS).c.val,n := fun i => (b.l.getD i dS).k.S.length,S := fun i => (b.l.getD i dS).k.s,M := fun i => (b.l.getD i dS).k.m,w := b.w,A := b.a.val }
def fI (l : List SR) (z t : Rat) (i : Nat) : Rat := fQ (l.getD i dS) z t
def gI (l : List SR) (z t : Rat) (i : Nat) : Rat := fQ (l.getD i dS) z t * ((l.getD i dS).x : Rat)
theorem aF {l : List SR} {i : Nat} (h : i < l.length) : l.getD i dS ∈ l := List.mem_of_getElem? (bi h)
set_option maxRecDepth 20000 in
theorem uB (l : List SR) (hl : fW l) (hf : mu l) {z t : Rat} {n m : Nat} (hz : HQ z n) (ht : HQ t m) (hn : n + m ≤ 100000) : Ret Tryz.prog .shared 130 [.sl (l.map eS),.sl ((FL l z t).map eR)] (.agg (eR (ofQ (ac (fI l z t) l.length)) ++ eR (ofQ (ac (gI l z t) l.length)))) := by
 have hw0 := aV 0 ⟨by decide,by decide⟩
 rw [show (((0 : Int) : Rat)) = 0 from rfl] at hw0
 have hml : (l.map eS).length = l.length := by simp
 have hFl : ((FL l z t).map eR).length = l.length := by simp [FL]
 have hFH : ∀ i,i < l.length → HQ (fI l z t i) (8 * (n + m + 60) + 4) := fun i hi => r6 (hl.1 _ (aF hi)) (hf.2 _ (aF hi)) hz ht
 have hGH : ∀ i,i < l.length → HQ (gI l z t i) (8 * (n + m + 60) + 4 + 4) := fun i hi => by
  have hx := (hl.1 _ (aF hi)).x
  have hx : Zb (l.getD i dS).x := a8 hx.1 hx.2
  exact @HQ.mul _ _ _ 4 (hFH i hi) HQ.int
 have hB : ∀ i,i ≤ l.length → i * (8 * (n + m + 60) + 4 + 4 + 1) + 4 ≤ 12000000 := fun i hi => by
  have := hf.1
  have := Nat.mul_le_mul (show i ≤ 12 by omega) (show 8 * (n + m + 60) + 4 + 4 + 1 ≤ 800489 by omega)
  omega
 refine Ret.of_pwp layOk mixed Go.Proofs.Tryz.func130 rfl (by decide) rfl rfl ?_
 repeat refine aa rfl ?_
 refine ap rfl rfl rfl hw0 rfl rfl ?_
 repeat refine aa rfl ?_
 refine ap rfl rfl rfl hw0 rfl rfl ?_
 repeat refine aa rfl ?_
 refine ao (fun i : Nat => i ≤ l.length) (fun i => [(1,.sl ((FL l z t).map eR)),(4,.ptr 4 1 0 0),(5,.ptr 5 1 0 0),(11,.sl (l.map eS)),(12,I l.length),(13,I (i : Nat))])
  (fun i => [(4,1,⟨90,8,[zN ++ zN],2⟩),(5,1,⟨90,8,[eR (ofQ (ac (fI l z t) i)) ++ eR (ofQ (ac (gI l z t) i))],2⟩)]) (fun i => l.length - i) 0 (Nat.zero_le _) ⟨rfl,rfl,rfl,rfl,by rw [← hml];rfl,rfl,rfl,rfl,trivial⟩ ?_
 intro i s hi
 repeat refine aa rfl ?_
 refine ab rfl ?_ ?_<;>intro h
 ·have hlt : i < l.length := by have := of_decide_eq_true h;omega
  clear h
  have hx := bi (d := dS) hlt
  have hFi : (FL l z t)[i]? = some (ofQ (fI l z t i)) := by rw [FL,List.getElem?_map,hx];rfl
  have hxx := (hl.1 _ (aF hlt)).x
  have hzb : Zb (l.getD i dS).x := a8 hxx.1 hxx.2
  have hw : IntKind.i64.wrap (((i : Nat) : Int) + 1) = ((i + 1 : Nat) : Int) := by have := hf.1;rw [wrap_i64 (by omega) (by omega)];omega
  have hBi := hB i hi
  have v0 : Vq (ofQ (fI l z t i)) (fI l z t i) (8 * (n + m + 60) + 4) := Vq.ofQ (h := hFH i hlt)
  have vg : Vq (ofQ (gI l z t i)) (gI l z t i) (8 * (n + m + 60) + 4 + 4) := Vq.ofQ (h := hGH i hlt)
  have v1 : Vq (ofQ (ac (fI l z t) i)) (ac (fI l z t) i) (i * (8 * (n + m + 60) + 4 + 1) + 4) := Vq.ofQ (h := bh i fun k hk => hFH k (by omega))
  have v2 : Vq (ofQ (ac (gI l z t) i)) (ac (gI l z t) i) (i * (8 * (n + m + 60) + 4 + 4 + 1) + 4) := Vq.ofQ (h := bh i fun k hk => hGH k (by omega))
  have h1 := dw (ofQ (ac (fI l z t) i)) (ofQ (fI l z t i)) (hx := v1) (hy := v0) (by have := Nat.mul_le_mul (Nat.le_refl i) (show 8 * (n + m + 60) + 4 + 1 ≤ 8 * (n + m + 60) + 4 + 4 + 1 by omega);omega) (by omega)
  have h2 := aV (l.getD i dS).x hxx
  have h3 := eQ (ofQ (fI l z t i)) (ofQ ((l.getD i dS).x : Rat)) (hx := v0) (by omega) (by decide)
  have h4 := dw (ofQ (ac (gI l z t) i)) (ofQ (gI l z t i)) (hx := v2) (hy := vg) (by omega) (by omega)
  rw [show ac (fI l z t) i + fI l z t i = ac (fI l z t) (i + 1) from rfl] at h1
  rw [show ac (gI l z t) i + gI l z t i = ac (gI l z t) (i + 1) from rfl] at h4
  rw [show fI l z t i * ((l.getD i dS).x : Rat) = gI l z t i from rfl] at h3
  generalize hF1 : ofQ (ac (fI l z t) (i + 1)) = F1 at *
  generalize hG1 : ofQ (ac (gI l z t) (i + 1)) = G1 at *
  generalize ofQ (ac (fI l z t) i) = F0 at *
  generalize ofQ (ac (gI l z t) i) = G0 at *
  repeat refine aa rfl ?_
  refine bO rfl rfl rfl rfl rfl rfl rfl hx rfl ?_
  repeat refine aa rfl ?_
  refine ah 8 [18,19,20,21,22,23,24,25] (by decide +kernel) ?_
  repeat refine aa rfl ?_
  refine bO rfl rfl rfl rfl rfl rfl rfl hFi rfl ?_
  repeat refine aa rfl ?_
  refine ap rfl rfl rfl h1 rfl rfl ?_
  repeat refine aa rfl ?_
  refine ah 12 [26,27,28,29,30,31,32,33,34,35,36,37] (by decide +kernel) ?_
  repeat refine aa rfl ?_
  refine bO rfl rfl rfl rfl rfl rfl rfl hFi rfl ?_
  repeat refine aa rfl ?_
  refine ap rfl rfl rfl h2 rfl rfl ?_
  repeat refine aa rfl ?_
  refine ap rfl rfl rfl h3 rfl rfl ?_
  repeat refine aa rfl ?_
  refine ap rfl rfl rfl h4 rfl rfl ?_
  repeat refine aa rfl ?_
  refine ⟨i + 1,hlt,by omega,rfl,rfl,rfl,rfl,rfl,congrArg I hw,rfl,?_,trivial⟩
  show (_ : Nat × Option Cont) = (1,some (Cont.mk 90 8 [eR (ofQ (ac (fI l z t) (i + 1))) ++ eR (ofQ (ac (gI l z t) (i + 1)))] 2))
  rw [hF1,hG1]
  rfl
 ·have hie : i = l.length := by have := of_decide_eq_false h;omega
  clear h
  subst hie
  repeat refine aa rfl ?_
  exact aK rfl rfl rfl
structure BR.Ok (b : BR) : Prop where
 lim : b.Lim
 chk : aU b = 0
 few : mu b.l
theorem k9 {b : BR} (h : aU b = 0) : 1 ≤ b.w ∧ b.w ≤ 1000000000 ∧ bQ b.l = 0 := by
 rw [aU] at h
 split at h
 ·omega
 ·rename_i h1
  exact ⟨by omega,by omega,h⟩
theorem BR.Ok.chkL {b : BR} (h : b.Ok) : bQ b.l = 0 := (k9 h.chk).2.2
set_option maxRecDepth 20000 in
theorem Ab {l : List SR} (hl : fW l) (hf : mu l) {z t : Rat} {n m : Nat} (hz : HQ z n) (ht : HQ t m) : HQ (ac (fI l z t) l.length) (96 * (n + m + 60) + 200) :=
 (bh l.length fun i hi => r6 (hl.1 _ (aF hi)) (hf.2 _ (aF hi)) hz ht).mono (by have := Nat.mul_le_mul hf.1 (Nat.le_refl (8 * (n + m + 60) + 4 + 1));omega)
set_option maxRecDepth 20000 in
theorem Ad {l : List SR} (hl : fW l) (hf : mu l) {z t : Rat} {n m : Nat} (hz : HQ z n) (ht : HQ t m) : HQ (ac (gI l z t) l.length) (96 * (n + m + 60) + 200) :=
 (bh (m := 8 * (n + m + 60) + 4 + 4) l.length fun i hi => by
  have hx := (hl.1 _ (aF hi)).x
  have hx : Zb (l.getD i dS).x := a8 hx.1 hx.2
  exact @HQ.mul _ _ _ 4 (r6 (hl.1 _ (aF hi)) (hf.2 _ (aF hi)) hz ht) HQ.int).mono (by have := Nat.mul_le_mul hf.1 (Nat.le_refl (8 * (n + m + 60) + 4 + 4 + 1));omega)
theorem iU (l : List SR) (hl : fW l) (hc : bQ l = 0) (hf : mu l) (a : AR) {z t : Rat} {n m : Nat} [ha : Va a z t n m] (hn : n + m ≤ 90000) :
  Ret Tryz.prog .shared 51 [.sl (l.map eS),.agg (eA a)] (.tup [.agg (eR (ofQ (ac (fI l z t) l.length)) ++ eR (ofQ (ac (gI l z t) l.length))),I 0]) := by
 have h1 := fx l hl hc a hn
 have h2 := uB l hl hf ha.z.hq ha.t.hq (by omega)
 generalize ofQ (ac (fI l z t) l.length) = X1 at *
 generalize ofQ (ac (gI l z t) l.length) = X2 at *
 generalize FL l z t = L at *
 obtain ⟨az,at'⟩ := a
 refine Ret.of_pwp layOk mixed Go.Proofs.Tryz.func51 rfl (by decide) rfl rfl ?_
 repeat refine aa rfl ?_
 refine ap rfl rfl rfl h1 rfl rfl ?_
 repeat refine aa rfl ?_
 refine ap rfl rfl rfl h2 rfl rfl ?_
 repeat refine aa rfl ?_
 exact aK rfl rfl rfl
theorem sS {b : BR} (hb : b.Ok) : HQ ((b.w : Rat) * b.a.val) 17 := by
 have hw : Zb b.w := a8 hb.lim.w.1 hb.lim.w.2
 exact @HQ.mul _ _ 4 13 HQ.int hb.lim.a.v.hq
theorem lk (b : BR) (hb : b.Ok) (a : AR) {z t : Rat} {n m : Nat} [ha : Va a z t n m] (hn : n + m ≤ 60000) : Ret Tryz.prog .shared 164 [.agg (eB b),.agg (eA a)] (.agg (eR (ofQ ((bd b).e z t)))) := by
 have h1 := iU b.l hb.lim.l hb.chkL hb.few a (by omega)
 have h2 := aV b.w hb.lim.w
 have hw : Zb b.w := a8 hb.lim.w.1 hb.lim.w.2
 have h3 := eQ (ofQ (b.w : Rat)) b.a (hy := hb.lim.a.v) (by decide) (by decide)
 have v1 : Vq (ofQ (ac (gI b.l z t) b.l.length)) (ac (gI b.l z t) b.l.length) (96 * (n + 1 + (m + 1) + 60) + 200) := Vq.ofQ (h := Ad hb.lim.l hb.few ha.z.hq ha.t.hq)
 have v2 : Vq (ofQ ((b.w : Rat) * b.a.val)) ((b.w : Rat) * b.a.val) 17 := Vq.ofQ (h := sS hb)
 have h4 := jX (ofQ (ac (gI b.l z t) b.l.length)) (ofQ ((b.w : Rat) * b.a.val)) (hx := v1) (hy := v2) (by omega) (by decide)
 rw [show ac (gI b.l z t) b.l.length - (b.w : Rat) * b.a.val = (bd b).e z t from rfl] at h4
 generalize ofQ ((bd b).e z t) = X0 at *
 generalize ofQ (ac (fI b.l z t) b.l.length) = X1 at *
 generalize ofQ (ac (gI b.l z t) b.l.length) = X2 at *
 generalize ofQ ((b.w : Rat) * b.a.val) = X3 at *
 generalize ofQ (b.w : Rat) = X4 at *
 obtain ⟨w,ba,l⟩ := b
 obtain ⟨az,at'⟩ := a
 simp only at *
 refine Ret.of_pwp layOk mixed Go.Proofs.Tryz.func164 rfl (by decide) rfl rfl ?_
 repeat refine aa rfl ?_
 refine ap rfl rfl rfl h1 rfl rfl ?_
 repeat refine aa rfl ?_
 refine ah 9 [14,15,16,17,18,19,20,21,22] (by decide +kernel) ?_
 repeat refine aa rfl ?_
 refine ap rfl rfl rfl h2 rfl rfl ?_
 repeat refine aa rfl ?_
 refine ap rfl rfl rfl h3 rfl rfl ?_
 repeat refine aa rfl ?_
 refine ap rfl rfl rfl h4 rfl rfl ?_
 repeat refine aa rfl ?_
 exact aK rfl rfl rfl
theorem Au {b : BR} (hb : b.Ok) {z t : Rat} {n m : Nat} (hz : HQ z n) (ht : HQ t m) : HQ ((bd b).e z t) (96 * (n + m + 60) + 200 + 17 + 1) := @HQ.sub _ _ _ 17 (Ad hb.lim.l hb.few hz ht) (sS hb)
instance (b : Bd) (z t : Rat) : Decidable (b.Bal z t) := inferInstanceAs (Decidable (_ ∧ _))
theorem nP (b : BR) (hb : b.Ok) (a : AR) {z t : Rat} {n m : Nat} [ha : Va a z t n m] (hn : n + m ≤ 60000) : Ret Tryz.prog .shared 115 [.agg (eB b),.agg (eA a)] (.bool (decide ((bd b).Bal z t))) := by
 have h1 := iU b.l hb.lim.l hb.chkL hb.few a (by omega)
 have h2 := aV b.w hb.lim.w
 have hw : Zb b.w := a8 hb.lim.w.1 hb.lim.w.2
 have v0 : Vq (ofQ (ac (fI b.l z t) b.l.length)) (ac (fI b.l z t) b.l.length) (96 * (n + 1 + (m + 1) + 60) + 200) := Vq.ofQ (h := Ab hb.lim.l hb.few ha.z.hq ha.t.hq)
 have h5 := nV (ofQ (ac (fI b.l z t) b.l.length)) (ofQ (b.w : Rat)) (hx := v0) (by omega) (by decide)
 have h3 := eQ (ofQ (b.w : Rat)) b.a (hy := hb.lim.a.v) (by decide) (by decide)
 have v1 : Vq (ofQ (ac (gI b.l z t) b.l.length)) (ac (gI b.l z t) b.l.length) (96 * (n + 1 + (m + 1) + 60) + 200) := Vq.ofQ (h := Ad hb.lim.l hb.few ha.z.hq ha.t.hq)
 have v2 : Vq (ofQ ((b.w : Rat) * b.a.val)) ((b.w : Rat) * b.a.val) 17 := Vq.ofQ (h := sS hb)
 have h4 := nV (ofQ (ac (gI b.l z t) b.l.length)) (ofQ ((b.w : Rat) * b.a.val)) (hx := v1) (hy := v2) (by omega) (by decide)
 have key : decide ((bd b).Bal z t) = (decide (sgn (ac (fI b.l z t) b.l.length - (b.w : Rat)) = 0) && decide (sgn (ac (gI b.l z t) b.l.length - (b.w : Rat) * b.a.val) = 0)) := by
  rw [← Bool.decide_and,decide_eq_decide,jS,jS]
  show ac (fI b.l z t) b.l.length = (b.w : Rat) ∧ ac (gI b.l z t) b.l.length = (b.w : Rat) * b.a.val ↔ _
  constructor
  ·rintro ⟨e1,e2⟩;rw [e1,e2];constructor <;> grind
  ·rintro ⟨e1,e2⟩;constructor <;> grind
 rw [key]
 generalize sgn (ac (fI b.l z t) b.l.length - (b.w : Rat)) = g1 at *
 generalize sgn (ac (gI b.l z t) b.l.length - (b.w : Rat) * b.a.val) = g2 at *
 generalize ofQ (ac (fI b.l z t) b.l.length) = X1 at *
 generalize ofQ (ac (gI b.l z t) b.l.length) = X2 at *
 generalize ofQ ((b.w : Rat) * b.a.val) = X3 at *
 generalize ofQ (b.w : Rat) = X4 at *
 obtain ⟨w,ba,l⟩ := b
 obtain ⟨az,at'⟩ := a
 simp only at *
 refine Ret.of_pwp layOk mixed Go.Proofs.Tryz.func115 rfl (by decide) rfl rfl ?_
 repeat refine aa rfl ?_
 refine ap rfl rfl rfl h1 rfl rfl ?_
 repeat refine aa rfl ?_
 refine ah 20 [14,15,16,17,18,19,20,21,22,23,24,25,26,27,28,29,30,31,32,4] (by decide +kernel) ?_
 repeat refine aa rfl ?_
 refine ap rfl rfl rfl h2 rfl rfl ?_
 repeat refine aa rfl ?_
 refine aY rfl rfl rfl h5 rfl rfl rfl ?_
 repeat refine aa rfl ?_
 refine fU rfl rfl rfl ?_ ?_<;>intro h
 ·rw [h]
  clear h
  repeat refine aa rfl ?_
  refine ap rfl rfl rfl h2 rfl rfl ?_
  repeat refine aa rfl ?_
  refine ap rfl rfl rfl h3 rfl rfl ?_
  repeat refine aa rfl ?_
  refine aY rfl rfl rfl h4 rfl rfl rfl ?_
  repeat refine aa rfl ?_
  exact bm rfl rfl rfl
 ·rw [h]
  clear h
  repeat refine aa rfl ?_
  exact bm rfl rfl rfl
theorem sI {S M : Nat → Rat} {n : Nat} {y : Rat} (h : ∀ k,k + 1 < n → S k < S (k + 1)) : ∀ m,m ≤ n → ac (eH S M y) m = aQ M (j_ S y m)
 |0,_ => rfl
 |m + 1,hm => by
  rw [ac,sI h m (by omega),j_,eH]
  by_cases hy : S m ≤ y
  ·rw [if_pos hy,if_neg (by grind)]
   have : j_ S y m = m := by
    cases m with
    |zero => rfl
    |succ j =>
     have := h j (by omega)
     rw [j_,if_pos (by grind)]
   rw [this,aQ]
   grind
  ·rw [if_neg hy,if_pos (by grind)]
   grind
def tL (c : CR) (y : Rat) : Nat → RR
 |0 => ofQ 0
 |i + 1 => if c.s i < y then c.M.getD i RR.zero else tL c y i
theorem wd {c : CR} (hc : c.Lim) (y : Rat) : ∀ i,Vq (tL c y i) (aQ c.m (oO c.s y i)) 12
 |0 => mE c hc 0
 |i + 1 => by
  rw [tL,oO]
  split
  ·exact pE c hc i
  ·exact wd hc y i
theorem lW (s : SR) (hs : s.Lim) (hk : bV s.k = 0) (a : AR) {z t : Rat} {n m : Nat} [ha : Va a z t n m] (hn : n + m ≤ 90000) : Ret Tryz.prog .shared 173 [.agg (eS s),.dref (eA a) 0] (.agg (eR (ofQ (aQ s.k.m (j_ s.k.s (yQ s z t) s.k.S.length))))) := by
 have h1 := jE s hs a (by omega) (by omega)
 have v1 : Vq (ofQ (yQ s z t)) (yQ s z t) (13 + (n + 1 + (m + 1 + 4) + 1) + 1) := Vq.ofQ (h := sU hs ha.z.hq ha.t.hq)
 have h2 := um s.k hs.k hk (ofQ (yQ s z t)) (hy := v1) (by omega)
 rw [xp,sI (cH hk).2.2.2 _ (Nat.le_refl _)] at h2
 generalize ofQ (aQ s.k.m (j_ s.k.s (yQ s z t) s.k.S.length)) = X2 at *
 generalize ofQ (yQ s z t) = X1 at *
 obtain ⟨x,c,k⟩ := s
 obtain ⟨az,at'⟩ := a
 try simp only at *
 refine Ret.of_pwp layOk mixed Go.Proofs.Tryz.func173 rfl (by decide) rfl rfl ?_
 repeat refine aa rfl ?_
 refine bM [4] [9,10] (by decide +kernel) ?_
 repeat refine aa rfl ?_
 refine ap rfl rfl rfl h1 rfl rfl ?_
 repeat refine aa rfl ?_
 refine ap rfl rfl rfl h2 rfl rfl ?_
 repeat refine aa rfl ?_
 exact aK rfl rfl rfl
set_option maxRecDepth 20000 in
theorem mT (s : SR) (hs : s.Lim) (hk : bV s.k = 0) (a : AR) {z t : Rat} {n m : Nat} [ha : Va a z t n m] (hn : n + m ≤ 90000) : Ret Tryz.prog .shared 206 [.agg (eS s),.dref (eA a) 0] (.agg (eR (tL s.k (yQ s z t) s.k.S.length))) := by
 have h1 := jE s hs a (by omega) (by omega)
 have v1 : Vq (ofQ (yQ s z t)) (yQ s z t) (13 + (n + 1 + (m + 1 + 4) + 1) + 1) := Vq.ofQ (h := sU hs ha.z.hq ha.t.hq)
 have hw0 := aV 0 ⟨by decide,by decide⟩
 rw [show (((0 : Int) : Rat)) = 0 from rfl] at hw0
 have hSM := (cH hk).2.1
 have h40 := (cH hk).1
 have hkl := hs.k
 obtain ⟨x,c,k⟩ := s
 obtain ⟨az,at'⟩ := a
 simp only at hSM h40 hkl
 dsimp only
 generalize yQ ⟨x,c,k⟩ z t = y at *
 generalize ofQ y = Y at *
 have hSl : (k.S.map eN).length = k.S.length := by simp
 refine Ret.of_pwp layOk mixed Go.Proofs.Tryz.func206 rfl (by decide) rfl rfl ?_
 repeat refine aa rfl ?_
 refine ap rfl rfl rfl h1 rfl rfl ?_
 repeat refine aa rfl ?_
 refine ap rfl rfl rfl hw0 rfl rfl ?_
 repeat refine aa rfl ?_
 refine ao (fun i : Nat => i ≤ k.S.length) (fun i => [(2,.ptr 2 1 0 0),(3,.ptr 3 1 0 0),(4,.ptr 4 1 0 0),(5,.ptr 5 1 0 0),(14,.sl (k.S.map eN)),(15,I k.S.length),(16,I (i : Nat))])
  (fun i => [(2,1,⟨122,7,[eS ⟨x,c,k⟩],2⟩),(3,1,⟨26,4,[zN],2⟩),(4,1,⟨26,4,[eR Y],2⟩),(5,1,⟨26,4,[eR (tL k y i)],2⟩)]) (fun i => k.S.length - i) 0 (Nat.zero_le _) ⟨rfl,rfl,rfl,rfl,rfl,by rw [← hSl];rfl,rfl,rfl,rfl,rfl,rfl,trivial⟩ ?_
 intro i s hi
 repeat refine aa rfl ?_
 refine ab rfl ?_ ?_<;>intro h
 ·have hlt : i < k.S.length := by have := of_decide_eq_true h;omega
  clear h
  have hx := bi (d := 0) hlt
  have hmx := bi (l := k.M) (i := i) (d := RR.zero) (by omega)
  have hxb := kf hkl i
  have hnum := aV (k.S.getD i 0) hxb
  have hzb : Zb (k.S.getD i 0) := a8 hxb.1 hxb.2
  have hcm := nV (ofQ ((k.S.getD i 0 : Int) : Rat)) Y (hy := v1) (by decide) (by omega)
  have hsl := cg (k.s i - y)
  rw [show ((k.S.getD i 0 : Int) : Rat) = k.s i from rfl] at hnum hcm
  have hw := jx i
  have hst : tL k y (i + 1) = if k.s i < y then k.M.getD i RR.zero else tL k y i := rfl
  generalize ofQ (k.s i) = N at *
  repeat refine aa rfl ?_
  refine bO rfl rfl rfl rfl rfl rfl rfl hx rfl ?_
  repeat refine aa rfl ?_
  refine ah 5 [21,22,23,24,25] (by decide +kernel) ?_
  repeat refine aa rfl ?_
  refine ap rfl rfl rfl hnum rfl rfl ?_
  repeat refine aa rfl ?_
  refine aY rfl rfl rfl hcm rfl rfl rfl ?_
  repeat refine aa rfl ?_
  refine ab rfl ?_ ?_<;>intro h
  ·have h3 : k.s i < y := by have := hsl.1 (of_decide_eq_true h);grind
   clear h
   rw [if_pos h3] at hst
   repeat refine aa rfl ?_
   refine bO rfl rfl rfl rfl rfl rfl rfl hmx rfl ?_
   repeat refine aa rfl ?_
   refine ⟨i + 1,hlt,by omega,rfl,rfl,rfl,rfl,rfl,rfl,congrArg I hw,rfl,rfl,rfl,?_,trivial⟩
   show (_ : Nat × Option Cont) = (1,some (Cont.mk 26 4 [eR (tL k y (i + 1))] 2))
   rw [hst]
   rfl
  ·have h3 : ¬ k.s i < y := fun h2 => (of_decide_eq_false h) (hsl.2 (by grind))
   clear h
   rw [if_neg h3] at hst
   repeat refine aa rfl ?_
   refine ⟨i + 1,hlt,by omega,rfl,rfl,rfl,rfl,rfl,rfl,congrArg I hw,rfl,rfl,rfl,?_,trivial⟩
   show (_ : Nat × Option Cont) = (1,some (Cont.mk 26 4 [eR (tL k y (i + 1))] 2))
   rw [hst]
   rfl
 ·have hie : i = k.S.length := by have := of_decide_eq_false h;omega
  clear h
  subst hie
  repeat refine aa rfl ?_
  exact aK rfl rfl rfl
theorem nl (a : AR) : Ret Tryz.prog .shared 127 [.agg (eA a)] (.clo 173 [.dref (eA a) 0]) := by
 obtain ⟨az,at'⟩ := a
 refine Ret.of_pwp layOk mixed Go.Proofs.Tryz.func127 rfl (by decide) rfl rfl ?_
 repeat refine aa rfl ?_
 exact aK rfl rfl rfl
theorem pB (a : AR) : Ret Tryz.prog .shared 194 [.agg (eA a)] (.clo 206 [.dref (eA a) 0]) := by
 obtain ⟨az,at'⟩ := a
 refine Ret.of_pwp layOk mixed Go.Proofs.Tryz.func194 rfl (by decide) rfl rfl ?_
 repeat refine aa rfl ?_
 exact aK rfl rfl rfl
def xI (l : List SR) (i : Nat) : Rat := ((l.getD i dS).x : Rat)
def eK (a b c : RR) : List PV := eR a ++ (eR b ++ eR c)
set_option maxRecDepth 20000 in
theorem nA (l : List SR) (hl : fW l) (hf : mu l) (f : FuncId) (cc : List PV) (g : SR → RR) (κ : Nat → Rat) (hg : ∀ s ∈ l,Ret Tryz.prog .shared f [.agg (eS s),.dref cc 0] (.agg (eR (g s)))) (hv : ∀ i,i < l.length → Vq (g (l.getD i dS)) (κ i) 1000) :
  Ret Tryz.prog .shared 126 [.sl (l.map eS),.clo f [.dref cc 0]] (.agg (eK (ofQ (ac κ l.length)) (ofQ (ac (fun i => κ i * xI l i) l.length)) (ofQ (ac (fun i => κ i * xI l i * xI l i) l.length)))) := by
 have hw0 := aV 0 ⟨by decide,by decide⟩
 rw [show (((0 : Int) : Rat)) = 0 from rfl] at hw0
 have hml : (l.map eS).length = l.length := by simp
 have hX : ∀ i,i < l.length → HQ (xI l i) 4 := fun i hi => by
  have hx := (hl.1 _ (aF hi)).x
  have hx : Zb (l.getD i dS).x := a8 hx.1 hx.2
  exact HQ.int
 have hK : ∀ i,i < l.length → HQ (κ i) 1001 := fun i hi => (hv i hi).hq
 have hC : ∀ i,i < l.length → HQ (κ i * xI l i) 1005 := fun i hi => @HQ.mul _ _ 1001 4 (hK i hi) (hX i hi)
 have hP : ∀ i,i < l.length → HQ (κ i * xI l i * xI l i) 1009 := fun i hi => @HQ.mul _ _ 1005 4 (hC i hi) (hX i hi)
 have h12 := hf.1
 generalize hc : (fun i => κ i * xI l i) = C at *
 generalize hp : (fun i => κ i * xI l i * xI l i) = Pq at *
 have hCi : ∀ i,κ i * xI l i = C i := fun i => by rw [← hc]
 have hPi : ∀ i,C i * xI l i = Pq i := fun i => by rw [← hc,← hp]
 simp only [hCi,hPi] at hC hP
 clear hc hp
 refine Ret.of_pwp layOk mixed Go.Proofs.Tryz.func126 rfl (by decide) rfl rfl ?_
 repeat refine aa rfl ?_
 refine ap rfl rfl rfl hw0 rfl rfl ?_
 repeat refine aa rfl ?_
 refine ap rfl rfl rfl hw0 rfl rfl ?_
 repeat refine aa rfl ?_
 refine ap rfl rfl rfl hw0 rfl rfl ?_
 repeat refine aa rfl ?_
 refine ao (fun i : Nat => i ≤ l.length) (fun i => [(1,.clo f [.dref cc 0]),(4,.ptr 4 1 0 0),(5,.ptr 5 1 0 0),(13,.sl (l.map eS)),(14,I l.length),(15,I (i : Nat))])
  (fun i => [(4,1,⟨94,12,[zN ++ (zN ++ zN)],2⟩),(5,1,⟨94,12,[eK (ofQ (ac κ i)) (ofQ (ac C i)) (ofQ (ac Pq i))],2⟩)]) (fun i => l.length - i) 0 (Nat.zero_le _) ⟨rfl,rfl,rfl,rfl,by rw [← hml];rfl,rfl,rfl,rfl,trivial⟩ ?_
 intro i s hi
 repeat refine aa rfl ?_
 refine ab rfl ?_ ?_<;>intro h
 ·have hlt : i < l.length := by have := of_decide_eq_true h;omega
  clear h
  have hx := bi (d := dS) hlt
  have hxx := (hl.1 _ (aF hlt)).x
  have hgx := hg _ (aF hlt)
  have hvi := hv i hlt
  have hw := jx i
  have hwx := aV (l.getD i dS).x hxx
  rw [show ((l.getD i dS).x : Rat) = xI l i from rfl] at hwx
  have vx : Vq (ofQ (xI l i)) (xI l i) 4 := Vq.ofQ (h := hX i hlt)
  have v1 : Vq (ofQ (ac κ i)) (ac κ i) (i * (1001 + 1) + 4) := Vq.ofQ (h := bh i fun k hk => hK k (by omega))
  have v2 : Vq (ofQ (ac C i)) (ac C i) (i * (1005 + 1) + 4) := Vq.ofQ (h := bh i fun k hk => hC k (by omega))
  have v3 : Vq (ofQ (ac Pq i)) (ac Pq i) (i * (1009 + 1) + 4) := Vq.ofQ (h := bh i fun k hk => hP k (by omega))
  have w2 : Vq (ofQ (C i)) (C i) 1005 := Vq.ofQ (h := hC i hlt)
  have w3 : Vq (ofQ (Pq i)) (Pq i) 1009 := Vq.ofQ (h := hP i hlt)
  have a1 := dw (ofQ (ac κ i)) (g (l.getD i dS)) (hx := v1) (hy := hvi) (by omega) (by decide)
  have m1 := eQ (g (l.getD i dS)) (ofQ (xI l i)) (hx := hvi) (hy := vx) (by decide) (by decide)
  rw [hCi] at m1
  have a2 := dw (ofQ (ac C i)) (ofQ (C i)) (hx := v2) (hy := w2) (by omega) (by decide)
  have m2 := eQ (ofQ (C i)) (ofQ (xI l i)) (hx := w2) (hy := vx) (by decide) (by decide)
  rw [hPi] at m2
  have a3 := dw (ofQ (ac Pq i)) (ofQ (Pq i)) (hx := v3) (hy := w3) (by omega) (by decide)
  rw [show ac κ i + κ i = ac κ (i + 1) from rfl] at a1
  rw [show ac C i + C i = ac C (i + 1) from rfl] at a2
  rw [show ac Pq i + Pq i = ac Pq (i + 1) from rfl] at a3
  have hout : eK (ofQ (ac κ (i + 1))) (ofQ (ac C (i + 1))) (ofQ (ac Pq (i + 1))) = eK (ofQ (ac κ (i + 1))) (ofQ (ac C (i + 1))) (ofQ (ac Pq (i + 1))) := rfl
  generalize ofQ (ac κ i) = K0 at *
  generalize ofQ (ac C i) = C0 at *
  generalize ofQ (ac Pq i) = P0 at *
  generalize hK1 : ofQ (ac κ (i + 1)) = K1 at *
  generalize hC1 : ofQ (ac C (i + 1)) = C1 at *
  generalize hP1 : ofQ (ac Pq (i + 1)) = P1 at *
  generalize ofQ (xI l i) = XI at *
  generalize ofQ (C i) = CI at *
  generalize ofQ (Pq i) = PI at *
  repeat refine aa rfl ?_
  refine bO rfl rfl rfl rfl rfl rfl rfl hx rfl ?_
  repeat refine aa rfl ?_
  refine ap rfl rfl rfl hgx rfl rfl ?_
  repeat refine aa rfl ?_
  refine ap rfl rfl rfl a1 rfl rfl ?_
  repeat refine aa rfl ?_
  refine ah 5 [27,28,29,30,31] (by decide +kernel) ?_
  repeat refine aa rfl ?_
  refine ap rfl rfl rfl hwx rfl rfl ?_
  repeat refine aa rfl ?_
  refine ap rfl rfl rfl m1 rfl rfl ?_
  repeat refine aa rfl ?_
  refine ap rfl rfl rfl a2 rfl rfl ?_
  repeat refine aa rfl ?_
  refine ah 9 [37,38,39,40,41,42,43,44,45] (by decide +kernel) ?_
  repeat refine aa rfl ?_
  refine ap rfl rfl rfl hwx rfl rfl ?_
  repeat refine aa rfl ?_
  refine ap rfl rfl rfl m2 rfl rfl ?_
  repeat refine aa rfl ?_
  refine ap rfl rfl rfl a3 rfl rfl ?_
  repeat refine aa rfl ?_
  refine ⟨i + 1,hlt,by omega,rfl,rfl,rfl,rfl,rfl,congrArg I hw,rfl,?_,trivial⟩
  show (_ : Nat × Option Cont) = (1,some (Cont.mk 94 12 [eK (ofQ (ac κ (i + 1))) (ofQ (ac C (i + 1))) (ofQ (ac Pq (i + 1)))] 2))
  rw [hK1,hC1,hP1]
  rfl
 ·have hie : i = l.length := by have := of_decide_eq_false h;omega
  clear h
  subst hie
  repeat refine aa rfl ?_
  exact aK rfl rfl rfl
theorem s7 (a d : AR) {z t : Rat} {n m : Nat} {z' t' : Rat} {n' m' : Nat} [ha : Va a z t n m] [hd : Va d z' t' n' m'] (h1 : n ≤ 8000000) (h2 : m ≤ 8000000) (h3 : n' ≤ 8000000) (h4 : m' ≤ 8000000) : Ret Tryz.prog .shared 128 [.agg (eA a),.agg (eA d)] (.agg (eA ⟨ofQ (z + z'),ofQ (t + t')⟩)) := by
 have a1 := dw a.z d.z (hx := ha.z) (hy := hd.z) (by omega) (by omega)
 have a2 := dw a.t d.t (hx := ha.t) (hy := hd.t) (by omega) (by omega)
 generalize ofQ (z + z') = X at *
 generalize ofQ (t + t') = Y at *
 obtain ⟨az,at'⟩ := a
 obtain ⟨dz,dt⟩ := d
 try simp only at *
 refine Ret.of_pwp layOk mixed Go.Proofs.Tryz.func128 rfl (by decide) rfl rfl ?_
 repeat refine aa rfl ?_
 refine ah 11 [5,6,7,8,9,10,11,12,13,14,15] (by decide +kernel) ?_
 repeat refine aa rfl ?_
 refine ap rfl rfl rfl a1 rfl rfl ?_
 repeat refine aa rfl ?_
 refine ap rfl rfl rfl a2 rfl rfl ?_
 repeat refine aa rfl ?_
 exact aK rfl rfl rfl
theorem cV {q : Rat} {n : Nat} (h : Vq (ofQ q) q n) : HQ q n := by
 refine ⟨?_⟩
 obtain ⟨_,h1,h2⟩ := h
 have e1 := bC (ofQ q).n.l
 have e2 := bC (ofQ q).d.l
 rw [show (ofQ q).n.l = ak q.num.natAbs from rfl] at e1 h1
 rw [show (ofQ q).d.l = ak q.den from rfl] at e2 h2
 rw [aC] at e1 e2
 exact ⟨Nat.lt_of_lt_of_le e1 (b9 h1),Nat.lt_of_lt_of_le e2 (b9 h2)⟩
def lI (d : Option (Rat × Rat)) : PV := match d with
 |none => .tup [.agg (zN ++ zN),.bool false]
 |some d => .tup [.agg (eA ⟨ofQ d.1,ofQ d.2⟩),.bool true]
set_option maxRecDepth 20000 in
theorem tP (kh kc kp fo mo : RR) {η c p u v : Rat} {a b : Nat} (hh : Vq kh η a) (hc : Vq kc c a) (hp : Vq kp p a) (hu : Vq fo u b) (hv : Vq mo v b) (ha : a ≤ 20000) (hb : b ≤ 7000000) :
  Ret Tryz.prog .shared 125 [.agg (eK kh kc kp),.agg (eR fo),.agg (eR mo)] (lI (Bd.newt η c p u v)) := by
 have m1 := eQ kh kp (hx := hh) (hy := hp) (by omega) (by omega)
 have m2 := eQ kc kc (hx := hc) (hy := hc) (by omega) (by omega)
 have v1 : Vq (ofQ (η * p)) (η * p) (a + 1 + (a + 1)) := Vq.ofQ (h := @HQ.mul _ _ (a + 1) (a + 1) hh.hq hp.hq)
 have v2 : Vq (ofQ (c * c)) (c * c) (a + 1 + (a + 1)) := Vq.ofQ (h := @HQ.mul _ _ (a + 1) (a + 1) hc.hq hc.hq)
 have s1 := jX (ofQ (η * p)) (ofQ (c * c)) (hx := v1) (hy := v2) (by omega) (by omega)
 have v3 : Vq (ofQ (η * p - c * c)) (η * p - c * c) (a + 1 + (a + 1) + (a + 1 + (a + 1)) + 1) := Vq.ofQ (h := @HQ.sub _ _ _ _ (cV v1) (cV v2))
 have sg := l6 (ofQ (η * p - c * c)) (hx := v3) (by omega)
 have hs0 := jS (η * p - c * c)
 by_cases h0 : η * p - c * c = 0
 ·have hn : Bd.newt η c p u v = none := by rw [Bd.newt,if_pos h0]
  rw [hn]
  have e0 := hs0.2 h0
  rw [e0] at sg
  generalize ofQ (η * p - c * c) = D at *
  generalize ofQ (η * p) = D1 at *
  generalize ofQ (c * c) = D2 at *
  clear hn
  refine Ret.of_pwp layOk mixed Go.Proofs.Tryz.func125 rfl (by decide) rfl rfl ?_
  repeat refine aa rfl ?_
  refine bj 11 1 [11,12,13,14,15,16,17,18,19,20,21,8] [] (by decide +kernel) rfl ?_
  repeat refine aa rfl ?_
  refine ap rfl rfl rfl m1 rfl rfl ?_
  repeat refine aa rfl ?_
  refine ap rfl rfl rfl m2 rfl rfl ?_
  repeat refine aa rfl ?_
  refine ap rfl rfl rfl s1 rfl rfl ?_
  repeat refine aa rfl ?_
  refine aY rfl rfl rfl sg rfl rfl rfl ?_
  repeat refine aa rfl ?_
  exact aK rfl rfl rfl
 ·have hn : Bd.newt η c p u v = some ((p * u - c * v) / (η * p - c * c),(η * v - c * u) / (η * p - c * c)) := by rw [Bd.newt,if_neg h0]
  rw [hn]
  have m3 := eQ kp fo (hx := hp) (hy := hu) (by omega) (by omega)
  have m4 := eQ kc mo (hx := hc) (hy := hv) (by omega) (by omega)
  have m5 := eQ kh mo (hx := hh) (hy := hv) (by omega) (by omega)
  have m6 := eQ kc fo (hx := hc) (hy := hu) (by omega) (by omega)
  have w3 : Vq (ofQ (p * u)) (p * u) (a + 1 + (b + 1)) := Vq.ofQ (h := @HQ.mul _ _ (a + 1) (b + 1) hp.hq hu.hq)
  have w4 : Vq (ofQ (c * v)) (c * v) (a + 1 + (b + 1)) := Vq.ofQ (h := @HQ.mul _ _ (a + 1) (b + 1) hc.hq hv.hq)
  have w5 : Vq (ofQ (η * v)) (η * v) (a + 1 + (b + 1)) := Vq.ofQ (h := @HQ.mul _ _ (a + 1) (b + 1) hh.hq hv.hq)
  have w6 : Vq (ofQ (c * u)) (c * u) (a + 1 + (b + 1)) := Vq.ofQ (h := @HQ.mul _ _ (a + 1) (b + 1) hc.hq hu.hq)
  have s2 := jX (ofQ (p * u)) (ofQ (c * v)) (hx := w3) (hy := w4) (by omega) (by omega)
  have s3 := jX (ofQ (η * v)) (ofQ (c * u)) (hx := w5) (hy := w6) (by omega) (by omega)
  have x2 : Vq (ofQ (p * u - c * v)) (p * u - c * v) (a + 1 + (b + 1) + (a + 1 + (b + 1)) + 1) := Vq.ofQ (h := @HQ.sub _ _ _ _ (cV w3) (cV w4))
  have x3 : Vq (ofQ (η * v - c * u)) (η * v - c * u) (a + 1 + (b + 1) + (a + 1 + (b + 1)) + 1) := Vq.ofQ (h := @HQ.sub _ _ _ _ (cV w5) (cV w6))
  have q2 := pQ (ofQ (p * u - c * v)) (ofQ (η * p - c * c)) (hx := x2) (hy := v3) (by omega) (by omega) h0
  have q3 := pQ (ofQ (η * v - c * u)) (ofQ (η * p - c * c)) (hx := x3) (hy := v3) (by omega) (by omega) h0
  have hsn : sgn (η * p - c * c) ≠ 0 := fun e => h0 (hs0.1 e)
  simp only [lI]
  generalize ofQ ((p * u - c * v) / (η * p - c * c)) = R1 at *
  generalize ofQ ((η * v - c * u) / (η * p - c * c)) = R2 at *
  generalize sgn (η * p - c * c) = gs at *
  generalize ofQ (η * p - c * c) = D at *
  generalize ofQ (η * p) = D1 at *
  generalize ofQ (c * c) = D2 at *
  generalize ofQ (p * u - c * v) = D3 at *
  generalize ofQ (η * v - c * u) = D4 at *
  generalize ofQ (p * u) = D5 at *
  generalize ofQ (c * v) = D6 at *
  generalize ofQ (η * v) = D7 at *
  generalize ofQ (c * u) = D8 at *
  clear hn
  refine Ret.of_pwp layOk mixed Go.Proofs.Tryz.func125 rfl (by decide) rfl rfl ?_
  repeat refine aa rfl ?_
  refine bj 11 1 [11,12,13,14,15,16,17,18,19,20,21,8] [] (by decide +kernel) rfl ?_
  repeat refine aa rfl ?_
  refine ap rfl rfl rfl m1 rfl rfl ?_
  repeat refine aa rfl ?_
  refine ap rfl rfl rfl m2 rfl rfl ?_
  repeat refine aa rfl ?_
  refine ap rfl rfl rfl s1 rfl rfl ?_
  repeat refine aa rfl ?_
  refine aY rfl rfl rfl sg rfl rfl rfl ?_
  repeat refine aa rfl ?_
  refine ab rfl ?_ ?_<;>intro h
  ·exact absurd (of_decide_eq_true h) hsn
  clear h
  repeat refine aa rfl ?_
  refine bj 9 1 [26,27,28,29,30,31,32,33,34,9] [] (by decide +kernel) rfl ?_
  repeat refine aa rfl ?_
  refine ap rfl rfl rfl m3 rfl rfl ?_
  repeat refine aa rfl ?_
  refine ap rfl rfl rfl m4 rfl rfl ?_
  repeat refine aa rfl ?_
  refine ap rfl rfl rfl s2 rfl rfl ?_
  repeat refine aa rfl ?_
  refine bj 9 1 [35,36,37,38,39,40,41,42,43,10] [] (by decide +kernel) rfl ?_
  repeat refine aa rfl ?_
  refine ap rfl rfl rfl m5 rfl rfl ?_
  repeat refine aa rfl ?_
  refine ap rfl rfl rfl m6 rfl rfl ?_
  repeat refine aa rfl ?_
  refine ap rfl rfl rfl s3 rfl rfl ?_
  repeat refine aa rfl ?_
  refine ah 7 [44,45,46,47,48,49,50] (by decide +kernel) ?_
  repeat refine aa rfl ?_
  refine ap rfl rfl rfl q2 rfl rfl ?_
  repeat refine aa rfl ?_
  refine ap rfl rfl rfl q3 rfl rfl ?_
  repeat refine aa rfl ?_
  exact aK rfl rfl rfl
def eL (S M : Nat → Rat) (k : Nat) : Rat := M k * (S (k + 1) - S k)
theorem pO (S M : Nat → Rat) : ∀ m,gi S M (m + 1) = M m * S m - ac (eL S M) m
 |0 => by rw [gi,ac,ac,ac,aQ];grind
 |m + 1 => by
  have := pO S M m
  rw [gi] at this ⊢
  rw [ac,this,ac,aQ,eL];grind
theorem rS {S M : Nat → Rat} {n : Nat} (h : aQ M n = 0) : k_ n S M = ac (eL S M) (n - 1) := by
 cases n with
 |zero => rw [k_,gi,ac,ac];grind
 |succ m =>
  rw [aQ] at h
  rw [k_,pO,h,show m + 1 - 1 = m by omega];grind
def yf (c : CR) : PV := if aQ c.m c.S.length = 0 then .tup [.agg (eR (ofQ (k_ c.S.length c.s c.m))),.bool true,I 0] else .tup [.agg zN,.bool false,I 0]
theorem nT {c : CR} (hc : c.Lim) (k : Nat) : HQ (eL c.s c.m k) (13 + (4 + 4 + 1)) := by
 have h1 := kf hc k
 have h2 := kf hc (k + 1)
 have z1 : Zb (c.S.getD k 0) := a8 h1.1 h1.2
 have z2 : Zb (c.S.getD (k + 1) 0) := a8 h2.1 h2.2
 exact @HQ.mul _ _ 13 9 (pE c hc k).hq (@HQ.sub _ _ 4 4 HQ.int HQ.int)
set_option maxRecDepth 20000 in
theorem nU (c : CR) (hc : c.Lim) (h0 : bV c = 0) : Ret Tryz.prog .shared 131 [.agg (eC c)] (yf c) := by
 have hcc := c_ c hc
 rw [h0] at hcc
 obtain ⟨h40,hSM,hrange,-⟩ := cH h0
 have hz := dl 0 (by decide) (by decide)
 rw [show (((0 : Int) : Rat)) = 0 from rfl] at hz
 have hSl : (c.S.map eN).length = c.S.length := by simp
 generalize hR : yf c = R
 rw [yf] at hR
 refine Ret.of_pwp layOk mixed Go.Proofs.Tryz.func131 rfl (by decide) rfl rfl ?_
 repeat refine aa rfl ?_
 refine aY rfl rfl rfl hcc rfl rfl rfl ?_
 repeat refine aa rfl ?_
 refine ap rfl rfl rfl hz rfl rfl ?_
 repeat refine aa rfl ?_
 refine ao (fun i : Nat => i ≤ c.S.length ∧ (i = c.S.length → aQ c.m c.S.length = 0)) (fun i => [(1,.ptr 1 1 0 0),(2,.ptr 2 1 0 0),(6,.ptr 6 1 0 0),(17,.sl (c.S.map eN)),(18,I c.S.length),(19,I (i : Nat))])
  (fun i => [(1,1,⟨120,2,[eC c],2⟩),(2,1,⟨26,4,[zN],2⟩),(6,1,⟨26,4,[eR (ofQ (ac (eL c.s c.m) (min i (c.S.length - 1))))],2⟩)]) (fun i => c.S.length - i) 0 ⟨Nat.zero_le _,fun h => by rw [← h];rfl⟩ ⟨rfl,rfl,rfl,rfl,by rw [← hSl];rfl,rfl,rfl,rfl,?_,trivial⟩ ?_
 ·show (_ : Nat × Option Cont) = (1,some (Cont.mk 26 4 [eR (ofQ (ac (eL c.s c.m) (min 0 (c.S.length - 1))))] 2))
  rw [Nat.zero_min]
  rfl
 intro i s ⟨hi,hlast⟩
 repeat refine aa rfl ?_
 refine ab rfl ?_ ?_<;>intro h
 ·have hlt : i < c.S.length := by have := of_decide_eq_true h;omega
  clear h
  have hx := bi (d := 0) hlt
  have hmx := bi (l := c.M) (i := i) (d := RR.zero) (by omega)
  have hw := jx i
  by_cases hn : i + 1 < c.S.length
  ·have hy := bi (d := 0) hn
   have r1 := (hrange i hlt)
   have r2 := (hrange (i + 1) hn)
   have hd : IntKind.i64.wrap (c.S.getD (i + 1) 0 - c.S.getD i 0) = c.S.getD (i + 1) 0 - c.S.getD i 0 := wrap_i64 (by omega) (by omega)
   have hnum := dl (c.S.getD (i + 1) 0 - c.S.getD i 0) (by omega) (by omega)
   have ed : ((c.S.getD (i + 1) 0 - c.S.getD i 0 : Int) : Rat) = c.s (i + 1) - c.s i := by rw [CR.s,CR.s];push_cast;rfl
   rw [ed] at hnum
   have z1 : Zb (c.S.getD i 0) := a8 (by omega) (by omega)
   have z2 : Zb (c.S.getD (i + 1) 0) := a8 (by omega) (by omega)
   have v1 : Vq (ofQ (c.s (i + 1) - c.s i)) (c.s (i + 1) - c.s i) 9 := Vq.ofQ (h := @HQ.sub _ _ 4 4 HQ.int HQ.int)
   have m1 := eQ (c.M.getD i RR.zero) (ofQ (c.s (i + 1) - c.s i)) (hx := pE c hc i) (hy := v1) (by decide) (by decide)
   have v2 : Vq (ofQ (ac (eL c.s c.m) i)) (ac (eL c.s c.m) i) (i * (13 + (4 + 4 + 1) + 1) + 4) := Vq.ofQ (h := bh i fun k _ => nT hc k)
   have v3 : Vq (ofQ (eL c.s c.m i)) (eL c.s c.m i) (13 + (4 + 4 + 1)) := Vq.ofQ (h := nT hc i)
   rw [show c.m i * (c.s (i + 1) - c.s i) = eL c.s c.m i from rfl] at m1
   have a1 := dw (ofQ (ac (eL c.s c.m) i)) (ofQ (eL c.s c.m i)) (hx := v2) (hy := v3) (by omega) (by decide)
   rw [show ac (eL c.s c.m) i + eL c.s c.m i = ac (eL c.s c.m) (i + 1) from rfl] at a1
   rw [show min i (c.S.length - 1) = i by omega]
   generalize ofQ (ac (eL c.s c.m) i) = K0 at *
   generalize hK1 : ofQ (ac (eL c.s c.m) (i + 1)) = K1 at *
   generalize ofQ (eL c.s c.m i) = T0 at *
   generalize ofQ (c.s (i + 1) - c.s i) = D0 at *
   repeat refine aa rfl ?_
   refine bO rfl rfl rfl rfl rfl rfl rfl hx rfl ?_
   repeat refine aa rfl ?_
   rw [hw]
   refine ab rfl ?_ ?_<;>intro h
   ·clear h
    repeat refine aa rfl ?_
    refine ah 17 [30,31,32,33,34,35,36,37,38,39,40,41,42,43,44,45,46] (by decide +kernel) ?_
    repeat refine aa rfl ?_
    refine bO rfl rfl rfl rfl rfl rfl rfl hmx rfl ?_
    repeat refine aa rfl ?_
    rw [hw]
    refine bO rfl rfl rfl rfl rfl rfl rfl hy rfl ?_
    repeat refine aa rfl ?_
    rw [hd]
    refine ap rfl rfl rfl hnum rfl rfl ?_
    repeat refine aa rfl ?_
    refine ap rfl rfl rfl m1 rfl rfl ?_
    repeat refine aa rfl ?_
    refine ap rfl rfl rfl a1 rfl rfl ?_
    repeat refine aa rfl ?_
    refine ⟨i + 1,⟨by omega,fun h => by omega⟩,by omega,rfl,rfl,rfl,rfl,rfl,congrArg I hw,rfl,rfl,?_,trivial⟩
    show (_ : Nat × Option Cont) = (1,some (Cont.mk 26 4 [eR (ofQ (ac (eL c.s c.m) (min (i + 1) (c.S.length - 1))))] 2))
    rw [show min (i + 1) (c.S.length - 1) = i + 1 by omega,hK1]
    rfl
   ·have := of_decide_eq_false h
    exfalso
    omega
  ·have hie : i + 1 = c.S.length := by omega
   have hiz := r8 (c.M.getD i RR.zero) (hx := pE c hc i) (by decide)
   have hbf : aQ c.m c.S.length = c.m i := by rw [← hie];rfl
   rw [show min i (c.S.length - 1) = i by omega]
   by_cases hm : c.m i = 0
   ·rw [decide_eq_true hm] at hiz
    repeat refine aa rfl ?_
    refine bO rfl rfl rfl rfl rfl rfl rfl hx rfl ?_
    repeat refine aa rfl ?_
    rw [hw]
    refine ab rfl ?_ ?_<;>intro h
    ·have := of_decide_eq_true h
     exfalso
     omega
    ·clear h
     repeat refine aa rfl ?_
     refine bO rfl rfl rfl rfl rfl rfl rfl hmx rfl ?_
     repeat refine aa rfl ?_
     refine aY rfl rfl rfl hiz rfl rfl rfl ?_
     repeat refine aa rfl ?_
     refine ⟨i + 1,⟨by omega,fun _ => by rw [hbf];exact hm⟩,by omega,rfl,rfl,rfl,rfl,rfl,congrArg I hw,rfl,rfl,?_,trivial⟩
     show (_ : Nat × Option Cont) = (1,some (Cont.mk 26 4 [eR (ofQ (ac (eL c.s c.m) (min (i + 1) (c.S.length - 1))))] 2))
     rw [show min (i + 1) (c.S.length - 1) = i by omega]
     rfl
   ·rw [decide_eq_false hm] at hiz
    rw [if_neg (by rw [hbf];exact hm)] at hR
    subst hR
    repeat refine aa rfl ?_
    refine bO rfl rfl rfl rfl rfl rfl rfl hx rfl ?_
    repeat refine aa rfl ?_
    rw [hw]
    refine ab rfl ?_ ?_<;>intro h
    ·have := of_decide_eq_true h
     exfalso
     omega
    ·clear h
     repeat refine aa rfl ?_
     refine bO rfl rfl rfl rfl rfl rfl rfl hmx rfl ?_
     repeat refine aa rfl ?_
     refine aY rfl rfl rfl hiz rfl rfl rfl ?_
     repeat refine aa rfl ?_
     exact aK rfl rfl rfl
 ·have hie : i = c.S.length := by have := of_decide_eq_false h;omega
  clear h
  have hb := hlast hie
  rw [if_pos hb,rS hb] at hR
  subst hR
  rw [show min i (c.S.length - 1) = c.S.length - 1 by omega]
  repeat refine aa rfl ?_
  exact aK rfl rfl rfl
theorem qL (w : Int) (hw : i64 w) (x : RR) (r : AR) {p A B : Rat} {k n m : Nat} (hx : Vq x p k) (hr : Va r A B n m) (h1 : k ≤ 1000000) (h2 : n ≤ 1000000) (h3 : m ≤ 1000000) : Ret Tryz.prog .shared 97 [I w,.agg (eR x),.agg (eA r)] (.agg (eR (ofQ ((w : Rat) * (A + B * p))))) := by
 have zw : Zb w := a8 hw.1 hw.2
 have d1 := aV w hw
 have d2 := eQ r.t x (hx := hr.t) (hy := hx) (by omega) (by omega)
 have v2 : Vq (ofQ (B * p)) (B * p) (m + 1 + (k + 1)) := Vq.ofQ (h := @HQ.mul _ _ (m + 1) (k + 1) hr.t.hq hx.hq)
 have d3 := dw r.z (ofQ (B * p)) (hx := hr.z) (hy := v2) (by omega) (by omega)
 have v3 : Vq (ofQ (A + B * p)) (A + B * p) (n + 1 + (m + 1 + (k + 1)) + 1) := Vq.ofQ (h := @HQ.add _ _ (n + 1) _ hr.z.hq (cV v2))
 have d4 := eQ (ofQ (w : Rat)) (ofQ (A + B * p)) (hy := v3) (by decide) (by omega)
 generalize ofQ ((w : Rat) * (A + B * p)) = X4 at *
 generalize ofQ (A + B * p) = X3 at *
 generalize ofQ (B * p) = X2 at *
 generalize ofQ (w : Rat) = X1 at *
 obtain ⟨az,at'⟩ := r
 try simp only at *
 refine Ret.of_pwp layOk mixed Go.Proofs.Tryz.func97 rfl (by decide) rfl rfl ?_
 repeat refine aa rfl ?_
 refine ah 10 [7,8,9,10,11,12,13,14,15,16] (by decide +kernel) ?_
 repeat refine aa rfl ?_
 refine ap rfl rfl rfl d1 rfl rfl ?_
 repeat refine aa rfl ?_
 refine ap rfl rfl rfl d2 rfl rfl ?_
 repeat refine aa rfl ?_
 refine ap rfl rfl rfl d3 rfl rfl ?_
 repeat refine aa rfl ?_
 refine ap rfl rfl rfl d4 rfl rfl ?_
 repeat refine aa rfl ?_
 exact aK rfl rfl rfl
def cI (l : List SR) (i : Nat) : Rat := k_ (l.getD i dS).k.S.length (l.getD i dS).k.s (l.getD i dS).k.m
def we (l : List SR) (i : Nat) : Prop := aQ (l.getD i dS).k.m (l.getD i dS).k.S.length = 0
def yT (l : List SR) (A B : Rat) (i : Nat) : Rat := if 0 < A + B * xI l i then cI l i * (A + B * xI l i) else 0
def dT (l : List SR) (A B : Rat) (n : Nat) : Prop := ∀ i,i < n → 0 < A + B * xI l i → we l i
noncomputable def zD (l : List SR) (A B : Rat) : PV := @ite _ (dT l A B l.length) (Classical.propDecidable _) (.tup [.agg (eR (ofQ (ac (yT l A B) l.length))),.bool true]) (.tup [.agg zN,.bool false])
theorem vh {c : CR} (hc : c.Lim) (h8 : c.S.length ≤ 8) (h0 : aQ c.m c.S.length = 0) : HQ (k_ c.S.length c.s c.m) 200 := by
 rw [rS h0]
 exact (bh (c.S.length - 1) fun k _ => nT hc k).mono (by omega)
theorem z_ {l : List SR} (hl : fW l) (hf : mu l) {A B : Rat} {n m : Nat} (hA : HQ A n) (hB : HQ B m) {i : Nat} (hi : i < l.length) (ha : 0 < A + B * xI l i → we l i) : HQ (yT l A B i) (200 + (n + (m + 4) + 1)) := by
 rw [yT]
 split
 ·rename_i h
  have hx := (hl.1 _ (aF hi)).x
  have hx : Zb (l.getD i dS).x := a8 hx.1 hx.2
  exact @HQ.mul _ _ 200 (n + (m + 4) + 1) (vh (hl.1 _ (aF hi)).k (hf.2 _ (aF hi)) (ha h)) (@HQ.add _ _ n (m + 4) hA (@HQ.mul _ _ m 4 hB HQ.int))
 ·exact HQ.zero.mono (by omega)
set_option maxRecDepth 20000 in
theorem uG (l : List SR) (hl : fW l) (hf : mu l) (hck : bQ l = 0) (r : AR) {A B : Rat} {n m : Nat} (hr : Va r A B n m) (h2 : n ≤ 100000) (h3 : m ≤ 100000) : Ret Tryz.prog .shared 96 [.sl (l.map eS),.agg (eA r)] (zD l A B) := by
 have hw0 := aV 0 ⟨by decide,by decide⟩
 rw [show (((0 : Int) : Rat)) = 0 from rfl] at hw0
 have hml : (l.map eS).length = l.length := by simp
 have hz := hr.z.hq
 have ht := hr.t.hq
 have h12 := hf.1
 generalize hR : zD l A B = R
 rw [zD] at hR
 obtain ⟨rz,rt⟩ := r
 have hrz := hr.z
 have hrt := hr.t
 simp only at hrz hrt
 refine Ret.of_pwp layOk mixed Go.Proofs.Tryz.func96 rfl (by decide) rfl rfl ?_
 repeat refine aa rfl ?_
 refine ap rfl rfl rfl hw0 rfl rfl ?_
 repeat refine aa rfl ?_
 refine ao (fun i : Nat => i ≤ l.length ∧ dT l A B i) (fun i => [(3,.ptr 3 1 0 0),(4,.ptr 4 1 0 0),(6,.ptr 6 1 0 0),(14,.sl (l.map eS)),(15,I l.length),(16,I (i : Nat))])
  (fun i => [(3,1,⟨62,8,[eA ⟨rz,rt⟩],2⟩),(4,1,⟨26,4,[zN],2⟩),(6,1,⟨26,4,[eR (ofQ (ac (yT l A B) i))],2⟩)]) (fun i => l.length - i) 0 ⟨Nat.zero_le _,fun i hi => by omega⟩ ⟨rfl,rfl,rfl,rfl,by rw [← hml];rfl,rfl,rfl,rfl,rfl,trivial⟩ ?_
 intro i s ⟨hi,hall⟩
 repeat refine aa rfl ?_
 refine ab rfl ?_ ?_<;>intro h
 ·have hlt : i < l.length := by have := of_decide_eq_true h;omega
  clear h
  have hx := bi (d := dS) hlt
  have hsl := hl.1 _ (aF hlt)
  have h8 := hf.2 _ (aF hlt)
  have hkc := bR hck _ (aF hlt)
  have hxx := hsl.x
  have hzb : Zb (l.getD i dS).x := a8 hxx.1 hxx.2
  have hw := jx i
  have e1 := aV (l.getD i dS).x hxx
  rw [show ((l.getD i dS).x : Rat) = xI l i from rfl] at e1
  have vx : Vq (ofQ (xI l i)) (xI l i) 4 := Vq.ofQ (h := HQ.int)
  have e2 := eQ rt (ofQ (xI l i)) (hx := hrt) (hy := vx) (by omega) (by decide)
  have v2 : Vq (ofQ (B * xI l i)) (B * xI l i) (m + 1 + 4) := Vq.ofQ (h := @HQ.mul _ _ (m + 1) 4 ht HQ.int)
  have e3 := dw rz (ofQ (B * xI l i)) (hx := hrz) (hy := v2) (by omega) (by omega)
  have v3 : Vq (ofQ (A + B * xI l i)) (A + B * xI l i) (n + 1 + (m + 1 + 4) + 1) := Vq.ofQ (h := @HQ.add _ _ (n + 1) _ hz (cV v2))
  have e4 := l6 (ofQ (A + B * xI l i)) (hx := v3) (by omega)
  have hsg := AL (A + B * xI l i)
  by_cases hd : 0 < A + B * xI l i
  ·have hsn : ¬ sgn (A + B * xI l i) ≤ 0 := fun h => by have := hsg.1 h;grind
   have e5 := nU (l.getD i dS).k hsl.k hkc
   rw [yf] at e5
   generalize sgn (A + B * xI l i) = g at *
   by_cases hlim : we l i
   ·rw [if_pos (show aQ (l.getD i dS).k.m (l.getD i dS).k.S.length = 0 from hlim)] at e5
    have hcl := vh hsl.k h8 hlim
    rw [show k_ (l.getD i dS).k.S.length (l.getD i dS).k.s (l.getD i dS).k.m = cI l i from rfl] at e5 hcl
    have vc : Vq (ofQ (cI l i)) (cI l i) 200 := Vq.ofQ (h := hcl)
    have e6 := eQ (ofQ (cI l i)) (ofQ (A + B * xI l i)) (hx := vc) (hy := v3) (by decide) (by omega)
    have hall' : dT l A B (i + 1) := fun j hj hp => by
     by_cases hje : j = i
     ·subst hje;exact hlim
     ·exact hall j (by omega) hp
    have v6 : Vq (ofQ (cI l i * (A + B * xI l i))) (cI l i * (A + B * xI l i)) (200 + (n + 1 + (m + 1 + 4) + 1)) := Vq.ofQ (h := @HQ.mul _ _ 200 _ hcl (cV v3))
    have v7 : Vq (ofQ (ac (yT l A B) i)) (ac (yT l A B) i) (i * (200 + (n + 1 + (m + 1 + 4) + 1) + 1) + 4) := Vq.ofQ (h := bh i fun k hk => z_ hl hf hz ht (by omega) (hall k hk))
    have e7 := dw (ofQ (ac (yT l A B) i)) (ofQ (cI l i * (A + B * xI l i))) (hx := v7) (hy := v6) (by have := Nat.mul_le_mul (show i ≤ 12 by omega) (show 200 + (n + 1 + (m + 1 + 4) + 1) + 1 ≤ 200208 by omega);omega) (by omega)
    rw [show ac (yT l A B) i + cI l i * (A + B * xI l i) = ac (yT l A B) (i + 1) by rw [ac,yT,if_pos hd]] at e7
    generalize ofQ (ac (yT l A B) i) = K0 at *
    generalize hK1 : ofQ (ac (yT l A B) (i + 1)) = K1 at *
    generalize ofQ (cI l i * (A + B * xI l i)) = P0 at *
    generalize ofQ (cI l i) = C0 at *
    generalize ofQ (A + B * xI l i) = D0 at *
    generalize ofQ (B * xI l i) = D1 at *
    generalize ofQ (xI l i) = D2 at *
    repeat refine aa rfl ?_
    refine bO rfl rfl rfl rfl rfl rfl rfl hx rfl ?_
    (repeat ((fail_if_success (with_reducible refine aM 5 ?_));refine cF rfl ?_))
    refine aB (j5 9) ?_
    refine bj 9 1 [20,21,22,23,24,25,26,27,28,9] [] (by decide +kernel) rfl ?_
    repeat refine aa rfl ?_
    refine ap rfl rfl rfl e1 rfl rfl ?_
    repeat refine aa rfl ?_
    refine ap rfl rfl rfl e2 rfl rfl ?_
    repeat refine aa rfl ?_
    refine ap rfl rfl rfl e3 rfl rfl ?_
    repeat refine aa rfl ?_
    refine aY rfl rfl rfl e4 rfl rfl rfl ?_
    repeat refine aa rfl ?_
    refine ab rfl ?_ ?_<;>intro h
    ·exact absurd (of_decide_eq_true h) hsn
    clear h
    repeat refine aa rfl ?_
    refine ap rfl rfl rfl e5 rfl rfl ?_
    repeat refine aa rfl ?_
    refine ah 5 [42,43,44,45,46] (by decide +kernel) ?_
    repeat refine aa rfl ?_
    refine ap rfl rfl rfl e6 rfl rfl ?_
    repeat refine aa rfl ?_
    refine ap rfl rfl rfl e7 rfl rfl ?_
    repeat refine aa rfl ?_
    refine ⟨i + 1,⟨by omega,hall'⟩,by omega,rfl,rfl,rfl,rfl,rfl,congrArg I hw,rfl,rfl,?_,trivial⟩
    show (_ : Nat × Option Cont) = (1,some (Cont.mk 26 4 [eR (ofQ (ac (yT l A B) (i + 1)))] 2))
    rw [hK1]
    rfl
   ·rw [if_neg (show ¬ aQ (l.getD i dS).k.m (l.getD i dS).k.S.length = 0 from hlim)] at e5
    rw [if_neg (fun h => hlim (h i hlt hd))] at hR
    subst hR
    generalize ofQ (A + B * xI l i) = D0 at *
    generalize ofQ (B * xI l i) = D1 at *
    generalize ofQ (xI l i) = D2 at *
    repeat refine aa rfl ?_
    refine bO rfl rfl rfl rfl rfl rfl rfl hx rfl ?_
    (repeat ((fail_if_success (with_reducible refine aM 5 ?_));refine cF rfl ?_))
    refine aB (j5 9) ?_
    refine bj 9 1 [20,21,22,23,24,25,26,27,28,9] [] (by decide +kernel) rfl ?_
    repeat refine aa rfl ?_
    refine ap rfl rfl rfl e1 rfl rfl ?_
    repeat refine aa rfl ?_
    refine ap rfl rfl rfl e2 rfl rfl ?_
    repeat refine aa rfl ?_
    refine ap rfl rfl rfl e3 rfl rfl ?_
    repeat refine aa rfl ?_
    refine aY rfl rfl rfl e4 rfl rfl rfl ?_
    repeat refine aa rfl ?_
    refine ab rfl ?_ ?_<;>intro h
    ·exact absurd (of_decide_eq_true h) hsn
    clear h
    repeat refine aa rfl ?_
    refine ap rfl rfl rfl e5 rfl rfl ?_
    repeat refine aa rfl ?_
    exact aK rfl rfl rfl
  ·have hsn : sgn (A + B * xI l i) ≤ 0 := hsg.2 (by grind)
   have hall' : dT l A B (i + 1) := fun j hj hp => by
    by_cases hje : j = i
    ·subst hje;exact absurd hp hd
    ·exact hall j (by omega) hp
   have hsum : ac (yT l A B) (i + 1) = ac (yT l A B) i := by rw [ac,yT,if_neg hd];grind
   generalize sgn (A + B * xI l i) = g at *
   generalize ofQ (A + B * xI l i) = D0 at *
   generalize ofQ (B * xI l i) = D1 at *
   generalize ofQ (xI l i) = D2 at *
   repeat refine aa rfl ?_
   refine bO rfl rfl rfl rfl rfl rfl rfl hx rfl ?_
   (repeat ((fail_if_success (with_reducible refine aM 5 ?_));refine cF rfl ?_))
   refine aB (j5 9) ?_
   refine bj 9 1 [20,21,22,23,24,25,26,27,28,9] [] (by decide +kernel) rfl ?_
   repeat refine aa rfl ?_
   refine ap rfl rfl rfl e1 rfl rfl ?_
   repeat refine aa rfl ?_
   refine ap rfl rfl rfl e2 rfl rfl ?_
   repeat refine aa rfl ?_
   refine ap rfl rfl rfl e3 rfl rfl ?_
   repeat refine aa rfl ?_
   refine aY rfl rfl rfl e4 rfl rfl rfl ?_
   repeat refine aa rfl ?_
   refine ab rfl ?_ ?_<;>intro h
   ·clear h
    repeat refine aa rfl ?_
    refine ⟨i + 1,⟨by omega,hall'⟩,by omega,rfl,rfl,rfl,rfl,rfl,congrArg I hw,rfl,rfl,?_,trivial⟩
    show (_ : Nat × Option Cont) = (1,some (Cont.mk 26 4 [eR (ofQ (ac (yT l A B) (i + 1)))] 2))
    rw [hsum]
    rfl
   ·exact absurd hsn (of_decide_eq_false h)
 ·have hie : i = l.length := by have := of_decide_eq_false h;omega
  clear h
  subst hie
  rw [if_pos hall] at hR
  subst hR
  repeat refine aa rfl ?_
  exact aK rfl rfl rfl
noncomputable def jN (b : BR) (A B : Rat) : Bool := @decide (dT b.l A B b.l.length ∧ ac (yT b.l A B) b.l.length < (b.w : Rat) * (A + B * b.a.val)) (Classical.propDecidable _)
set_option maxRecDepth 20000 in
theorem ka (b : BR) (hb : b.Ok) (r : AR) {A B : Rat} {n m : Nat} (hr : Va r A B n m) (h2 : n ≤ 90000) (h3 : m ≤ 90000) : Ret Tryz.prog .shared 116 [.agg (eB b),.agg (eA r)] (.bool (jN b A B)) := by
 have h1 := uG b.l hb.lim.l hb.few hb.chkL r hr (by omega) (by omega)
 have zw : Zb b.w := a8 hb.lim.w.1 hb.lim.w.2
 have hd := qL b.w hb.lim.w b.a r hb.lim.a.v hr (by decide) (by omega) (by omega)
 have vd : Vq (ofQ ((b.w : Rat) * (A + B * b.a.val))) ((b.w : Rat) * (A + B * b.a.val)) (4 + (n + 1 + (m + 1 + 13) + 1)) := Vq.ofQ (h := @HQ.mul _ _ 4 _ HQ.int (@HQ.add _ _ (n + 1) _ hr.z.hq (@HQ.mul _ _ (m + 1) 13 hr.t.hq hb.lim.a.v.hq)))
 rw [zD] at h1
 by_cases hall : dT b.l A B b.l.length
 ·rw [if_pos hall] at h1
  have h12 := hb.few.1
  have hs := bh (m := 200 + (n + 1 + (m + 1 + 4) + 1)) b.l.length fun k hk => z_ hb.lim.l hb.few hr.z.hq hr.t.hq hk (hall k hk)
  have vs : Vq (ofQ (ac (yT b.l A B) b.l.length)) (ac (yT b.l A B) b.l.length) (b.l.length * (200 + (n + 1 + (m + 1 + 4) + 1) + 1) + 4) := Vq.ofQ (h := hs)
  have hc := nV (ofQ (ac (yT b.l A B) b.l.length)) (ofQ ((b.w : Rat) * (A + B * b.a.val))) (hx := vs) (hy := vd) (by have := Nat.mul_le_mul (show b.l.length ≤ 12 by omega) (show 200 + (n + 1 + (m + 1 + 4) + 1) + 1 ≤ 180210 by omega);omega) (by omega)
  have hsl := cg (ac (yT b.l A B) b.l.length - (b.w : Rat) * (A + B * b.a.val))
  have key : jN b A B = decide (sgn (ac (yT b.l A B) b.l.length - (b.w : Rat) * (A + B * b.a.val)) < 0) := by
   rw [jN,decide_eq_decide,hsl]
   constructor
   ·intro h;have := h.2;grind
   ·intro h;exact ⟨hall,by grind⟩
  rw [key]
  generalize sgn (ac (yT b.l A B) b.l.length - (b.w : Rat) * (A + B * b.a.val)) = g at *
  generalize ofQ (ac (yT b.l A B) b.l.length) = S at *
  generalize ofQ ((b.w : Rat) * (A + B * b.a.val)) = D at *
  obtain ⟨w,ba,l⟩ := b
  obtain ⟨rz,rt⟩ := r
  try simp only at *
  refine Ret.of_pwp layOk mixed Go.Proofs.Tryz.func116 rfl (by decide) rfl rfl ?_
  repeat refine aa rfl ?_
  refine ap rfl rfl rfl h1 rfl rfl ?_
  repeat refine aa rfl ?_
  refine ah 13 [14,15,16,17,18,19,20,21,22,23,24,25,4] (by decide +kernel) ?_
  repeat refine aa rfl ?_
  refine ap rfl rfl rfl hd rfl rfl ?_
  repeat refine aa rfl ?_
  refine aY rfl rfl rfl hc rfl rfl rfl ?_
  repeat refine aa rfl ?_
  exact bm rfl rfl rfl
 ·rw [if_neg hall] at h1
  have key : jN b A B = false := by
   unfold jN
   exact @decide_eq_false _ (Classical.propDecidable _) (fun h => hall h.1)
  rw [key]
  clear hd vd
  obtain ⟨w,ba,l⟩ := b
  obtain ⟨rz,rt⟩ := r
  try simp only at *
  refine Ret.of_pwp layOk mixed Go.Proofs.Tryz.func116 rfl (by decide) rfl rfl ?_
  repeat refine aa rfl ?_
  refine ap rfl rfl rfl h1 rfl rfl ?_
  repeat refine aa rfl ?_
  refine ah 13 [14,15,16,17,18,19,20,21,22,23,24,25,4] (by decide +kernel) ?_
  repeat refine aa rfl ?_
  exact bm rfl rfl rfl
end Go.Pv
namespace Go.Pv
open Go.RowKit Go.Sort
section
variable {P : Program} {L : Lay} {C : Ctx} {γ : Nat → Option Nat} {s : St} {a : Act} {w w' : World}
structure Chg (w w' : World) (b : Nat) (T : TypeId) (cur : Array Value) : Prop where
 os : w'.os = w.os
 tape : w'.tape = w.tape
 output : w'.output = w.output
 size : w.heap.size ≤ w'.heap.size
 other : ∀ b',b' ≠ b → b' < w.heap.size → w'.heap[b']? = w.heap[b']?
 at_ : w'.heap[b]? = some (.cells cur T (0,0))
theorem yg (h : Sim C γ s a w) {k g b : Nat} {c c' : Cont} {cur cur' : Array Value} (ho : s.own k = (g,some c)) (hb : γ k = some b) (hh : w.heap[b]? = some (.cells cur c.ty (0,0))) (hsz : cur'.size = cur.size)
  (hc : Chg w w' b c.ty cur') (h1 : c'.ty = c.ty) (h2 : c'.sz = c.sz) (h3 : c.rows.length ≤ c'.rows.length) (hs : SiteOk (ae C γ (s.setOwn k g (some c')) (w.setRow b cur')) (some b) c') : Sim C γ (s.setOwn k g (some c')) a w' := by
 refine (nB h ho hb hh hsz h1 h2 h3 hs).ext ⟨hc.os,hc.tape,hc.output,by simpa using hc.size,fun b' hb' => ?_⟩
 have hb'' : b' < w.heap.size := by simpa using hb'
 by_cases he : b' = b
 ·subst he
  rw [hc.at_,setRow_heap w b' cur cur' c.ty (0,0) hh]
 ·rw [hc.other b' he hb'',setRow_other w b b' cur' he]
theorem rT {α : Type} [Inhabited α] {e : α → Value} {q b : Nat} {d' : Array α} {os : Array Obj} {T : TypeId} {cur : Array Value} (hh : w.heap[b]? = some (.cells cur T (0,0))) (hw : w' = grow (putRow e (Sort.ahead w q) b 0 d') os) : Chg w w' b T (putCells e 0 d' cur) := by
 have hlt : b < w.heap.size := (Array.getElem?_eq_some_iff.1 hh).1
 subst hw
 refine ⟨rfl,rfl,rfl,by simp,fun b' hne hb' => ?_,?_⟩
 ·rw [heap_grow_old _ _ (by simpa using hb')]
  show (w.heap.modify b _)[b']? = _
  rw [Array.getElem?_modify,if_neg (Ne.symm hne)]
 ·rw [heap_grow_old _ _ (by simpa using hlt)]
  show (w.heap.modify b _)[b]? = _
  rw [Array.getElem?_modify,if_pos rfl,hh]
  rfl
theorem ii {α : Type} [Inhabited α] (e : α → Value) (off : Nat) (d : Array α) (c : Array Value) : (putCells e off d c).size = c.size := by simp [putCells]
theorem ij {α : Type} [Inhabited α] (e : α → Value) (d : Array α) (c : Array Value) (h : d.size ≤ c.size) : (putCells e 0 d c).toList.take d.size = d.toList.map e := by
 apply List.ext_getElem
 ·simp [putCells];omega
 intro i h1 h2
 have hi : i < d.size := by simpa using h2
 simp [putCells,hi]
theorem q_ {E : Env} {k : Nat} {c : PV} (h : gm c = true) : KRep E k c (scv c) := by
 match k with
 |0 => exact (d7 h _ _).1
 |1 => exact (d7 h _ _).1
 |_ + 2 => exact .d (d7 h _ _).1
def fS {α : Type} (enc : α → List PV) (l : List α) : List Value := l.flatMap fun x => (enc x).map scv
theorem tw {α : Type} {enc : α → List PV} {sz : Nat} (h : ∀ x,(enc x).length = sz) (l : List α) : (fS enc l).length = l.length * sz := by
 induction l with
 |nil => simp [fS]
 |cons x l ih => simp only [fS,List.flatMap_cons,List.length_append,List.length_map,List.length_cons,h,Nat.add_mul,Nat.one_mul] at ih ⊢;omega
theorem i9 {α : Type} {enc : α → List PV} {sz : Nat} (h : ∀ x,(enc x).length = sz) : ∀ (l : List α) (i j : Nat) (x : α) (c : PV),l[i]? = some x → (enc x)[j]? = some c → (fS enc l)[i * sz + j]? = some (scv c)
 |[],i,j,x,c,h1,_ => by simp at h1
 |y :: l,0,j,x,c,h1,h2 => by
  simp at h1;subst h1
  have hj := (List.getElem?_eq_some_iff.1 h2).1
  rw [fS,List.flatMap_cons,List.getElem?_append_left (by simp;omega),List.getElem?_map,Nat.zero_mul,Nat.zero_add,h2];rfl
 |y :: l,i + 1,j,x,c,h1,h2 => by
  have ih := i9 h l i j x c (by simpa using h1) h2
  rw [fS,List.flatMap_cons,List.getElem?_append_right (by rw [List.length_map,h,Nat.add_mul];omega),List.length_map,h]
  rw [show (i + 1) * sz + j - sz = i * sz + j by rw [Nat.add_mul];omega]
  exact ih
theorem sM {l m : List Value} {n i : Nat} {v : Value} (h : l.take n = m) (hi : m[i]? = some v) : l[i]? = some v := by
 rw [← h,List.getElem?_take] at hi
 split at hi
 ·exact hi
 ·cases hi
def BY (ro : Option Nat) (a : Option Addr) (cap : Nat) : Value := match ro with
 |none => .tuple #[]
 |some n => .slice a n cap
def Cf (ro : Option Nat) (k g : Nat) : PV := match ro with
 |none => .tup []
 |some n => .als k g 0 n
variable [Globs]
theorem l9 {α : Type} {enc : α → List PV} {l : List α} {d k g m sz kd f : Nat} {T ty : TypeId} {pos : String} {af : Array Edge} {x fop : Operand} {more : List Operand} {mv : List FuncId} {tys : Array TypeId} {K : St → Prop} (ro : Option Nat) (Q : List α → Prop)
  (hpl : ∀ x,(enc x).all gm = true) (hlen : ∀ x,(enc x).length = sz) (hsz : 0 < sz) (hf : s.ev fop = .clo f []) (hx : s.ev x = .als k g 0 m) (hm : m = l.length) (ho : s.own k = (g,some ⟨T,sz,l.map enc,kd⟩)) (hmore : more.map s.ev = mv.map fun f => .clo f []) (hcal : dx P f) (hro : ∀ n,ro = some n → n ≤ l.length)
  (h0 : l = [] → Q [] ∧ ∀ w : World,Globs.glob w → Calls P f (Value.slice none 0 0 :: mv.map fun f => .func (.func f) #[] #[]).toArray w fun e w' => e = .returned (BY ro none 0) ∧ Below w.heap.size w w')
  (hcall : ∀ (w : World) (b cap : Nat) (cur : Array Value),w.heap[b]? = some (.cells cur T (0,0)) → l.length ≤ cap → l.length * sz ≤ cur.size → cur.toList.take (l.length * sz) = fS enc l → Globs.glob w →
   Calls P f (Value.slice (some ⟨b,0,none⟩) l.length cap :: mv.map fun f => .func (.func f) #[] #[]).toArray w fun e w' => ∃ l' cur',Q l' ∧ l'.length = l.length ∧ e = .returned (BY ro (some ⟨b,0,none⟩) cap) ∧ Chg w w' b T cur' ∧ cur'.size = cur.size ∧ cur'.toList.take (l.length * sz) = fS enc l')
  (h : ∀ l',Q l' → l'.length = l.length → K ((s.setOwn k g (some ⟨T,sz,l'.map enc,kd⟩)).putR d (Cf ro k g))) : Sm P L s ⟨some d,.call ⟨.value fop,(x :: more).toArray,tys⟩,ty,pos,af,none⟩ K := by
 intro C a w Qp hG hs hN
 obtain ⟨γ,hs⟩ := hs
 have hfv := hs.ev fop
 rw [hf] at hfv
 obtain ⟨vs,hv,hl,_⟩ := hfv.clo_inv
 have hvs : vs = [] := List.eq_nil_of_length_eq_zero (by simpa using hl.symm)
 subst hvs
 have hmv : more.map a.eval = mv.map fun f => Value.func (.func f) #[] #[] := by
  clear h0 hcall h
  induction more generalizing mv with
  |nil => cases mv with
   |nil => rfl
   |cons f mv => simp at hmore
  |cons y more ih => cases mv with
   |nil => simp at hmore
   |cons f mv =>
    simp only [List.map_cons,List.cons.injEq] at hmore ⊢
    have hy := hs.ev y
    rw [hmore.1] at hy
    obtain ⟨vs,hv,hl,_⟩ := hy.clo_inv
    have hvs : vs = [] := List.eq_nil_of_length_eq_zero (by simpa using hl.symm)
    subst hvs
    exact ⟨hv,ih hmore.2 hN⟩
 have hxr := hs.ev x
 rw [hx] at hxr
 have hals := hs.als_at hxr ho
 unfold Oper.wp
 rw [gu (f := f) rfl hv hcal,Oper.upon_enter]
 simp only [List.map_cons,List.append_nil,hmv]
 have hglob := hG.glob _ hs.below
 rcases hals with ⟨h1,_,h3,h4⟩ | ⟨b,cap,cur,h1,h2,h3,h4,h5,h6,h7⟩
 ·have hnil : l = [] := List.eq_nil_of_length_eq_zero (by omega)
  rw [h4]
  refine ((h0 hnil).2 w hglob).mono ?_
  rintro e w' ⟨rfl,hbel⟩
  have hs' := hs.ext hbel
  have hst : s = s.setOwn k g (some ⟨T,sz,l.map enc,kd⟩) := by
   have : s.own = (s.setOwn k g (some ⟨T,sz,l.map enc,kd⟩)).own := by
    funext r
    by_cases hr : r = k
    ·subst hr;rw [ag,ho]
    ·rw [aq hr]
   cases s
   simp only [St.setOwn] at this ⊢
   rw [← this]
  have hKs := h [] (h0 hnil).1 (by rw [hnil])
  rw [hnil] at hst
  rw [← hst] at hKs
  refine ⟨_,⟨γ,hs'.put (d := some d) hN ?_⟩,hKs⟩
  cases ro with
  |none => exact .tup [] [] rfl fun i c v e => by simp at e
  |some n =>
   have hn := hro n rfl
   rw [hnil] at hn
   have hn0 : n = 0 := by simpa using hn
   subst hn0
   refine .als (by simp [ae,ho]) fun _ l2 hl2 => ?_
   simp only [ae,ho,Option.map_some,Option.some.injEq] at hl2
   subst hl2
   exact .inl ⟨h1,rfl,rfl,rfl⟩
 ·subst hm
  rw [h2]
  simp only [Nat.zero_mul]
  have h3 : w.heap[b]? = some (.cells cur T (0,0)) := h3
  have hz : (0 + cap) * sz = cap * sz := by rw [Nat.zero_add]
  have hcs : cur.size = cap * sz := by rw [← hz];exact h6
  have hle : l.length * sz ≤ cur.size := by rw [hcs];exact Nat.mul_le_mul_right _ h4
  obtain ⟨cur0,g1,_,_,g4,g5⟩ := hs.site_at ho h1 hsz
  have g1 : w.heap[b]? = some (.cells cur0 T (0,0)) := g1
  rw [h3] at g1
  simp only [Option.some.injEq,Obj.cells.injEq,and_true] at g1
  subst g1
  have hflat : cur.toList.take (l.length * sz) = fS enc l := by
   apply List.ext_getElem?
   intro q
   by_cases hq : q < l.length * sz
   ·have hqi : q / sz < l.length := (Nat.div_lt_iff_lt_mul hsz).2 hq
    have hqj : q % sz < sz := Nat.mod_lt _ hsz
    have hqe : q / sz * sz + q % sz = q := by rw [Nat.mul_comm];exact Nat.div_add_mod q sz
    have hx1 : l[q / sz]? = some l[q / sz] := List.getElem?_eq_getElem hqi
    have hx2 : (enc l[q / sz])[q % sz]? = some ((enc l[q / sz])[q % sz]'(by rw [hlen];exact hqj)) := List.getElem?_eq_getElem _
    obtain ⟨v,e1,_,e3⟩ := g5 (q / sz) (q % sz) (enc l[q / sz]) _ (by rw [List.getElem?_map,hx1];rfl) hx2
    have hpv := List.all_eq_true.1 (hpl l[q / sz]) _ (List.mem_of_getElem? hx2)
    have hv := nb hpv (e3.rep am)
    have := i9 hlen l (q / sz) (q % sz) _ _ hx1 hx2
    rw [hqe] at this e1
    rw [this,List.getElem?_take,if_pos hq,Array.getElem?_toList,e1,hv]
   ·rw [List.getElem?_take,if_neg hq,List.getElem?_eq_none (by rw [tw hlen];omega)]
  refine (hcall w b cap cur h3 h4 hle hflat hglob).mono ?_
  rintro e w' ⟨l',cur',hQ,hl',rfl,hchg,hcz,hfl⟩
  have hsite : SiteOk (ae C γ (s.setOwn k g (some ⟨T,sz,l'.map enc,kd⟩)) (w.setRow b cur')) (some b) ⟨T,sz,l'.map enc,kd⟩ := by
   refine ⟨(fun e => by cases e),(fun b' _ hz => by simp only at hz;omega),(fun b' _ hz => by simp only at hz;omega),fun b' hb' _ => ?_⟩
   simp at hb';subst hb'
   refine ⟨cur',setRow_heap w b cur cur' T (0,0) h3,hsz,by simp only [List.length_map];rw [hl',hcz];exact hle,fun row hr => ?_,fun i j row pv e1 e2 => ?_⟩
   ·simp only [List.mem_map] at hr
    obtain ⟨y,_,rfl⟩ := hr
    exact hlen y
   ·simp only [List.getElem?_map,Option.map_eq_some_iff] at e1
    obtain ⟨y,hy,rfl⟩ := e1
    have hpv := List.all_eq_true.1 (hpl y) _ (List.mem_of_getElem? e2)
    have := sM hfl (i9 hlen l' i j y pv hy e2)
    exact ⟨scv pv,by rw [← Array.getElem?_toList];exact this,(d7 hpv w (fun _ => True)).2,q_ hpv⟩
  have hsim := yg (c' := ⟨T,sz,l'.map enc,kd⟩) hs ho h1 h3 hcz hchg rfl rfl (by simp [hl']) hsite
  refine ⟨_,⟨γ,hsim.put (d := some d) hN ?_⟩,h l' hQ hl'⟩
  cases ro with
  |none => exact .tup [] [] rfl fun i c v e => by simp at e
  |some n =>
   have hn := hro n rfl
   refine .als (by simp [ae,ag]) fun _ l2 hl2 => ?_
   simp only [ae,ag,Option.map_some,Option.some.injEq] at hl2
   subst hl2
   exact .inr ⟨b,cap,cur',h1,by simp [BY],hchg.at_,by omega,h5,by rw [hcz];exact h6,by simp;omega⟩
end
end Go.Pv
namespace Go.Proofs
open Go.Shelf
def Tryz.lays189_ren : Go.Shelf.Ren := ⟨fun | 189 => 179 | 125 => 197 | 257 => 196 | 128 => 216 | 129 => 217 | 294 => 207 | 295 => 208 | 296 => 209 | 297 => 210 | 298 => 211 | 299 => 212 | 216 => 213 | 300 => 214 | 301 => 215 | 328 => 220 | 329 => 221 | 330 => 222 | 331 => 223 | 332 => 224 | 215 => 225 | 343 => 228 | n => n,fun | 28 => 86 | 3 => 3 | 46 => 192 | 0 => 0 | 51 => 218 | 53 => 170 | 4 => 4 | 183 => 223 | 182 => 222 | 131 => 228 | 5 => 5 | 9 => 9 | 218 => 233 | 222 => 237 | 228 => 241 | 229 => 242 | n => n,fun | n => n⟩
theorem Tryz.lays189 : Go.Proofs.Lays.n189 Tryz.prog Tryz.lays189_ren := {
 mixed := by kernel_rfl
 f125 := Tryz.func197.trans (congrArg some (by kernel_rfl))
 f128 := Tryz.func216.trans (congrArg some (by kernel_rfl))
 f129 := Tryz.func217.trans (congrArg some (by kernel_rfl))
 f189 := Tryz.func179.trans (congrArg some (by kernel_rfl))
 f215 := Tryz.func225.trans (congrArg some (by kernel_rfl))
 f216 := Tryz.func213.trans (congrArg some (by kernel_rfl))
 f257 := Tryz.func196.trans (congrArg some (by kernel_rfl))
 f294 := Tryz.func207.trans (congrArg some (by kernel_rfl))
 f295 := Tryz.func208.trans (congrArg some (by kernel_rfl))
 f296 := Tryz.func209.trans (congrArg some (by kernel_rfl))
 f297 := Tryz.func210.trans (congrArg some (by kernel_rfl))
 f298 := Tryz.func211.trans (congrArg some (by kernel_rfl))
 f299 := Tryz.func212.trans (congrArg some (by kernel_rfl))
 f300 := Tryz.func214.trans (congrArg some (by kernel_rfl))
 f301 := Tryz.func215.trans (congrArg some (by kernel_rfl))
 f328 := Tryz.func220.trans (congrArg some (by kernel_rfl))
 f329 := Tryz.func221.trans (congrArg some (by kernel_rfl))
 f330 := Tryz.func222.trans (congrArg some (by kernel_rfl))
 f331 := Tryz.func223.trans (congrArg some (by kernel_rfl))
 f332 := Tryz.func224.trans (congrArg some (by kernel_rfl))
 f343 := Tryz.func228.trans (congrArg some (by kernel_rfl))
 t0 := Tryz.underlying0
 a0 := Tryz.isAgg0
 z0 := Tryz.sizeOf0
 v0 := Tryz.zeroValue0
 t3 := Tryz.underlying3
 a3 := Tryz.isAgg3
 z3 := Tryz.sizeOf3
 v3 := Tryz.zeroValue3
 t4 := Tryz.underlying4
 a4 := Tryz.isAgg4
 z4 := Tryz.sizeOf4
 v4 := Tryz.zeroValue4
 t5 := Tryz.underlying5
 a5 := Tryz.isAgg5
 z5 := Tryz.sizeOf5
 v5 := Tryz.zeroValue5
 t9 := Tryz.underlying9
 a9 := Tryz.isAgg9
 z9 := Tryz.sizeOf9
 v9 := Tryz.zeroValue9
 t28 := Tryz.underlying86
 a28 := Tryz.isAgg86
 z28 := Tryz.sizeOf86
 v28 := Tryz.zeroValue86
 t46 := Tryz.underlying192
 a46 := Tryz.isAgg192
 z46 := Tryz.sizeOf192
 v46 := Tryz.zeroValue192
 t51 := Tryz.underlying218
 a51 := Tryz.isAgg218
 z51 := Tryz.sizeOf218
 v51 := Tryz.zeroValue218
 t53 := Tryz.underlying170
 a53 := Tryz.isAgg170
 z53 := Tryz.sizeOf170
 v53 := Tryz.zeroValue170
 t131 := Tryz.underlying228
 a131 := Tryz.isAgg228
 z131 := Tryz.sizeOf228
 v131 := Tryz.zeroValue228
 t182 := Tryz.underlying222
 a182 := Tryz.isAgg222
 z182 := Tryz.sizeOf222
 v182 := Tryz.zeroValue222
 t183 := Tryz.underlying223
 a183 := Tryz.isAgg223
 z183 := Tryz.sizeOf223
 v183 := Tryz.zeroValue223
 t218 := Tryz.underlying233
 a218 := Tryz.isAgg233
 z218 := Tryz.sizeOf233
 v218 := Tryz.zeroValue233
 t222 := Tryz.underlying237
 a222 := Tryz.isAgg237
 z222 := Tryz.sizeOf237
 v222 := Tryz.zeroValue237
 t228 := Tryz.underlying241
 a228 := Tryz.isAgg241
 z228 := Tryz.sizeOf241
 v228 := Tryz.zeroValue241
 t229 := Tryz.underlying242
 a229 := Tryz.isAgg242
 z229 := Tryz.sizeOf242
 v229 := Tryz.zeroValue242 }
open Go.Sort Go.RowKit in
theorem Tryz.slices_Sort_int (blk off cap : Nat) (zs : List Int) (w : World) (hH : Holds (Value.int .i64) w blk off zs.toArray) (hblk : blk < w.heap.size) (hsz : zs.length < 4611686018427387904) :
  Calls Tryz.prog 179 #[.slice (some ⟨blk,off,none⟩) zs.length cap] w fun e w' =>
   e = .returned (.tuple #[]) ∧ ∃ n os,w' = grow (putRow (Value.int .i64) (Sort.ahead w n) blk off (zs.mergeSort fun x y => decide (x ≤ y)).toArray) os := Any.slices_Sort_int Tryz.lays189 blk off cap zs w hH hblk hsz
def Tryz.laysNm220_ren : Go.Shelf.Ren := ⟨fun | 20 => 180 | n => n,fun | 22 => 86 | 3 => 3 | 4 => 4 | 0 => 0 | n => n,fun | n => n⟩
theorem Tryz.laysNm220 : Go.Proofs.Lays2.n20 Tryz.prog Tryz.laysNm220_ren := {
 mixed := by kernel_rfl
 f20 := Tryz.func180.trans (congrArg some (by kernel_rfl))
 t0 := Tryz.underlying0
 a0 := Tryz.isAgg0
 z0 := Tryz.sizeOf0
 v0 := Tryz.zeroValue0
 t3 := Tryz.underlying3
 a3 := Tryz.isAgg3
 z3 := Tryz.sizeOf3
 v3 := Tryz.zeroValue3
 t4 := Tryz.underlying4
 a4 := Tryz.isAgg4
 z4 := Tryz.sizeOf4
 v4 := Tryz.zeroValue4
 t22 := Tryz.underlying86
 a22 := Tryz.isAgg86
 z22 := Tryz.sizeOf86
 v22 := Tryz.zeroValue86
 i3 := by kernel_rfl }
open Go.RowKit Go.Lib Go.Sort in
theorem Tryz.slices_Compact_int (blk off cap : Nat) (zs : List Int) (w : World) (hH : Holds (Value.int .i64) w blk off zs.toArray) (hsz : zs.length ≤ 9223372036854775807) (hcap : zs.length ≤ cap) :
  Calls Tryz.prog 180 #[.slice (some ⟨blk,off,none⟩) zs.length cap] w fun e w' => e = .returned (.slice (some ⟨blk,off,none⟩) (Lib.compact zs).length cap) ∧ ∃ q,w' = putRow (Value.int .i64) (Sort.ahead w q) blk off (Lib.compact zs ++ List.replicate (zs.length - (Lib.compact zs).length) 0).toArray := Any.slices_Compact_int Tryz.laysNm220 blk off cap zs w hH hsz hcap
open Go.RowKit Go.Lib Go.Sort in
theorem Tryz.slices_Compact_int_empty (a : Option Addr) (cap : Nat) (w : World) :
  Calls Tryz.prog 180 #[.slice a 0 cap] w fun e w' => e = .returned (.slice a 0 cap) ∧ w' = w := Any.slices_Compact_int_empty Tryz.laysNm220 a cap w
open Go.RowKit Go.Sort in
theorem Tryz.slices_Sort_int_none (p : Option Addr) (cap : Nat) (w : World) :
  Calls Tryz.prog 179 #[.slice p 0 cap] w fun e w' => e = .returned (.tuple #[]) ∧ w' = w := Any.slices_Sort_int_none Tryz.lays189 p cap w
end Go.Proofs
set_option maxHeartbeats 2000000
namespace Go.Pv
attribute [local irreducible] PWP POps PQuiet PSem au ar aj ai
open Go.Proofs Go.RowKit Go.Sort
theorem Sim.cutS {C : Ctx} {γ : Nat → Option Nat} {s : St} {a : Act} {w : World} (h : Sim C γ s a w) {k g n : Nat} {c : Cont} (ho : s.own k = (g,some c)) (hz : 0 < c.sz) : Sim C γ (s.setOwn k (g + 1) (some ⟨c.ty,c.sz,c.rows.take n,c.kind⟩)) a w := by
 have hown : ∀ k' c'',((s.setOwn k (g + 1) (some ⟨c.ty,c.sz,c.rows.take n,c.kind⟩)).own k').2 = some c'' → ∃ c3,(s.own k').2 = some c3 := by
  intro k' c'' hc
  by_cases hk : k' = k
  ·subst hk;exact ⟨c,by rw [ho]⟩
  ·rw [aq hk] at hc;exact ⟨c'',hc⟩
 have hok : ∀ b',c8 C γ s w b' → c8 C γ (s.setOwn k (g + 1) (some ⟨c.ty,c.sz,c.rows.take n,c.kind⟩)) w b' := by
  rintro b' ⟨f1,f2,f3⟩
  exact ⟨f1,f2,fun k' c'' hc => let ⟨c3,hc3⟩ := hown k' c'' hc;f3 k' c3 hc3⟩
 have hle : (ae C γ s w).Le (ae C γ (s.setOwn k (g + 1) (some ⟨c.ty,c.sz,c.rows.take n,c.kind⟩)) w) := by
  refine ⟨hok,fun b' hb' => ⟨hb'.1,hok b' hb'.2⟩,fun b' hb' => hb'.2,fun b' _ => rfl,fun k' => ?_,fun k' l' hg hl => ?_,fun k' l' b' cur'' _ hl hb' hh' => ⟨cur'',hh',rfl⟩⟩
  ·show (s.own k').1 ≤ ((s.setOwn k (g + 1) _).own k').1
   by_cases hk : k' = k
   ·subst hk;rw [ag,ho];exact Nat.le_succ _
   ·rw [aq hk];exact Nat.le_refl _
  ·by_cases hk : k' = k
   ·subst hk
    have : ((s.setOwn k' (g + 1) (some ⟨c.ty,c.sz,c.rows.take n,c.kind⟩)).own k').1 = (s.own k').1 := hg
    rw [ag,ho] at this
    simp at this
   ·simp only [ae,aq hk] at hl
    exact ⟨l',hl,rfl,rfl,rfl,Nat.le_refl _⟩
 refine ⟨h.defers,h.size,fun r => (h.regs r).mono hle,fun k' c'' hc => ?_,fun k1 k2 c1 c2 b' e1 e2 e3 e4 => ?_,fun k' c'' b' e1 e2 => ?_,h.below,h.top,fun c v hk => (h.kept c v hk).mono hle⟩
 ·by_cases hk : k' = k
  ·subst hk
   rw [ag] at hc
   simp at hc;subst hc
   have hs := h.sites k' c (by rw [ho])
   refine ⟨fun hb => by simp [hs.emp hb],(fun b' _ hz' => by simp only at hz';omega),(fun b' _ hz' => by simp only at hz';omega),fun b' hb' _ => ?_⟩
   obtain ⟨cur,h1,h2,h3,h4,h5⟩ := hs.at_ b' hb' hz
   refine ⟨cur,h1,h2,?_,fun row hr => h4 row (List.mem_of_mem_take hr),fun i j row pv e1 e2 => ?_⟩
   ·simp only [List.length_take]
    exact Nat.le_trans (Nat.mul_le_mul_right _ (Nat.min_le_right _ _)) h3
   ·simp only [List.getElem?_take] at e1
    split at e1
    ·obtain ⟨v,f1,f2,f3⟩ := h5 i j row pv e1 e2
     exact ⟨v,f1,f2,f3.mono hle⟩
    ·cases e1
  ·rw [aq hk] at hc
   exact (h.sites k' c'' hc).mono hle fun b' hb' => rfl
 ·obtain ⟨d1,f1⟩ := hown k1 c1 e1
  obtain ⟨d2,f2⟩ := hown k2 c2 e2
  exact h.inj k1 k2 d1 d2 b' f1 f2 e3 e4
 ·obtain ⟨d1,f1⟩ := hown k' c'' e1
  exact h.base k' d1 b' f1 e2
theorem Ghost.cut {s : St} {k g t n sz kd : Nat} {T : TypeId} {rows : List (List PV)} (ho : s.own k = (g,some ⟨T,sz,rows,kd⟩)) (hr : s.reg t = .als k g 0 n) (hn : n ≤ rows.length) (hz : Nat.blt 0 sz = true) :
  Ghost s ((s.setOwn k (g + 1) (some ⟨T,sz,rows.take n,kd⟩)).putR t (.als k (g + 1) 0 n)) := by
 intro C a w hX ⟨γ,h⟩
 have hz : 0 < sz := by simpa using hz
 have h' := h.cutS (n := n) ho hz
 have hals := h.als_at (by rw [← hr];exact h.regs t) ho
 refine ⟨γ,h'.defers,h'.size,fun r => ?_,h'.sites,h'.inj,h'.base,h'.below,h'.top,h'.kept⟩
 show Rep (ae C γ (s.setOwn k (g + 1) (some ⟨T,sz,rows.take n,kd⟩)) w) (bif Nat.beq r t then _ else _) _
 by_cases hrt : r = t
 ·subst hrt
  rw [Nat.beq_refl,cond_true]
  refine .als (by simp [ae,ag]) fun _ l hl => ?_
  simp only [ae,ag,Option.map_some,Option.some.injEq] at hl
  subst hl
  rcases hals with ⟨h1,h2,h3,h4⟩ | ⟨b,cap,cur,h1,h2,h3,h4,h5,h6,h7⟩
  ·exact .inl ⟨h1,h2,h3,h4⟩
  ·exact .inr ⟨b,cap,cur,h1,h2,h3,h4,h5,h6,by simp;omega⟩
 ·rw [aR hrt,cond_false]
  exact h'.regs r
def ca (l : List Int) : List Int := l.mergeSort fun x y => decide (x ≤ y)
def oo (l : List Int) : List Int := Lib.compact l ++ List.replicate (l.length - (Lib.compact l).length) 0
theorem pe (x : Int) : (eN x).all gm = true := rfl
theorem lv {w : World} {b : Nat} {T : TypeId} {cur : Array Value} {l : List Int} (hh : w.heap[b]? = some (.cells cur T (0,0))) (hc : cur.toList.take (l.length * 1) = fS eN l) : Holds (Value.int .i64) w b 0 l.toArray := fun j hj => by
 have hj' : j < l.length := by simpa using hj
 have hx : l[j]? = some l[j] := List.getElem?_eq_getElem hj'
 have h1 := sM hc (i9 (sz := 1) (fun _ => rfl) l j 0 l[j] (I l[j]) hx rfl)
 rw [Nat.mul_one,Nat.add_zero] at h1
 refine ⟨?_,frozen_of_row w b _ cur T hh⟩
 rw [aN hh,Nat.zero_add,← Array.getElem?_toList,h1]
 simp [hj',scv]
theorem mP (l : List Int) : fS eN l = l.map (Value.int .i64) := by
 induction l with
 |nil => rfl
 |cons x l ih => rw [fS,List.flatMap_cons,List.map_cons,← ih];rfl
theorem yd : dx Tryz.prog 179 := ⟨_,Go.Proofs.Tryz.func179,by decide,rfl⟩
theorem ye : dx Tryz.prog 180 := ⟨_,Go.Proofs.Tryz.func180,by decide,rfl⟩
section
variable {C : Ctx} {s : St} {d k g m kd : Nat} {ty : TypeId} {pos : String} {af : Array Edge} {x : Operand} {tys : Array TypeId} {K : St → Prop}
set_option maxRecDepth 20000 in
theorem xz (l : List Int) (hl : l.length ≤ 1000000) (hx : s.ev x = .als k g 0 m) (hm : m = l.length) (ho : s.own k = (g,some ⟨3,1,l.map eN,kd⟩))
  (h : K ((s.setOwn k g (some ⟨3,1,(ca l).map eN,kd⟩)).putR d (.tup []))) : Sm Tryz.prog lay.get s ⟨some d,.call ⟨.value (.func 179),#[x],tys⟩,ty,pos,af,none⟩ K := by
 refine l9 (enc := eN) (l := l) (sz := 1) (more := []) (mv := []) none (fun l' => l' = ca l) pe (fun _ => rfl) (by decide) rfl hx hm ho rfl yd (fun n h => by cases h) (fun hl0 => ?_) (fun w b cap cur hh h1 h2 hc hg => ?_) (fun l' hQ _ => ?_)
 ·subst hl0
  refine ⟨by simp [ca],fun w _ => (Tryz.slices_Sort_int_none none 0 w).mono ?_⟩
  rintro e w' ⟨rfl,rfl⟩
  exact ⟨rfl,Below.refl _ _⟩
 ·have hb : b < w.heap.size := (Array.getElem?_eq_some_iff.1 hh).1
  refine (Tryz.slices_Sort_int b 0 cap l w (lv hh hc) hb (by omega)).mono ?_
  rintro e w' ⟨rfl,n,os,hw⟩
  have hlen : (ca l).length = l.length := by simp [ca]
  have hchg := rT (T := 3) hh hw
  refine ⟨ca l,_,rfl,hlen,rfl,hchg,ii _ _ _ _,?_⟩
  have := ij (Value.int .i64) (ca l).toArray cur (by simp [hlen];omega)
  rw [List.size_toArray,hlen] at this
  rw [Nat.mul_one,mP]
  exact this
 ·subst hQ;exact h
theorem dJ (l : List Int) : (Lib.compact l).length ≤ l.length := by
 rw [Lib.compact,Lib.compactUpTo,List.length_map]
 exact Nat.le_trans (List.length_filter_le _ _) (by simp)
theorem jh (l : List Int) : (oo l).length = l.length := by
 have := dJ l
 simp [oo];omega
set_option maxRecDepth 20000 in
theorem o6 (l : List Int) (hl : l.length ≤ 1000000) (hx : s.ev x = .als k g 0 m) (hm : m = l.length) (ho : s.own k = (g,some ⟨3,1,l.map eN,kd⟩))
  (h : K ((s.setOwn k g (some ⟨3,1,(oo l).map eN,kd⟩)).putR d (.als k g 0 (Lib.compact l).length))) : Sm Tryz.prog lay.get s ⟨some d,.call ⟨.value (.func 180),#[x],tys⟩,ty,pos,af,none⟩ K := by
 refine l9 (enc := eN) (l := l) (sz := 1) (more := []) (mv := []) (some (Lib.compact l).length) (fun l' => l' = oo l) pe (fun _ => rfl) (by decide) rfl hx hm ho rfl ye (fun n h => by cases h;exact dJ l) (fun hl0 => ?_) (fun w b cap cur hh h1 h2 hc hg => ?_) (fun l' hQ _ => ?_)
 ·subst hl0
  refine ⟨rfl,fun w _ => (Tryz.slices_Compact_int_empty none 0 w).mono ?_⟩
  rintro e w' ⟨rfl,rfl⟩
  exact ⟨rfl,Below.refl _ _⟩
 ·refine (Tryz.slices_Compact_int b 0 cap l w (lv hh hc) (by omega) h1).mono ?_
  rintro e w' ⟨rfl,q,hw⟩
  have hchg := rT (T := 3) hh (hw.trans (Go.Sort.grow_empty _).symm)
  refine ⟨oo l,_,rfl,jh l,rfl,hchg,ii _ _ _ _,?_⟩
  have := ij (Value.int .i64) (oo l).toArray cur (by simp [jh];omega)
  rw [List.size_toArray,jh] at this
  rw [Nat.mul_one,mP]
  exact this
 ·subst hQ;exact h
end
open Go.Proofs
def bk (l : List SR) : List Int := Lib.compact (ca (l.map (·.x)))
set_option maxRecDepth 20000 in
theorem lO (l : List SR) (hl : fW l) (h12 : l.length ≤ 1000) : Ret Tryz.prog .shared 151 [.sl (l.map eS)] (.sl ((bk l).map eN)) := by
 have hml : (l.map eS).length = l.length := by simp
 have hrows : ∀ (k : Nat) x,l[k]? = some x → ((l.take (k + 1)).map (·.x)).map eN = ((l.take k).map (·.x)).map eN ++ [eN x.x] := fun k x hx => by rw [cd hx,List.map_append,List.map_append];rfl
 refine Ret.of_pwp layOk mixed Go.Proofs.Tryz.func151 rfl (by decide) rfl rfl ?_
 ((repeat (first | refine aS ?_ | refine b5 ?_ | refine bY ?_ | refine bX ?_));refine aX ?_)
 refine h_ rfl trivial ?_
 ((repeat (first | refine aS ?_ | refine b5 ?_ | refine bY ?_ | refine bX ?_));refine aX ?_)
 (first | refine ax (eW 3 1 0 rfl rfl ?_) | refine ax (eT 3 1 0 rfl rfl ?_))
 repeat refine aa rfl ?_
 refine ao (fun k => k ≤ l.length) (fun k => [(3,.als 3 (k + 1) 0 (((l.take k).map (·.x)).map eN).length),(6,.sl (l.map eS)),(7,I l.length),(8,I k)]) (fun k => [(3,k + 1,⟨3,1,((l.take k).map (·.x)).map eN,0⟩)]) (fun k => l.length - k) 0 (Nat.zero_le _) ⟨rfl,rfl,by rw [← hml];rfl,rfl,rfl,trivial⟩ ?_
 intro k s hk
 repeat refine aa rfl ?_
 refine ab rfl ?_ ?_<;>intro h
 ·have hlt : k < l.length := by have := of_decide_eq_true h;omega
  clear h
  obtain ⟨x,hx⟩ := aH hlt
  have hw := jx k
  repeat refine aa rfl ?_
  refine bO rfl rfl rfl rfl rfl rfl rfl hx rfl ?_
  repeat refine aa rfl ?_
  refine ax (br 0 rfl rfl rfl rfl rfl rfl rfl rfl rfl rfl rfl (by repeat' constructor) rfl ?_)
  repeat refine aa rfl ?_
  refine ax (bP 0 rfl rfl rfl rfl rfl rfl rfl rfl rfl rfl rfl (by repeat' constructor) (by intro row hr;first | (simp at hr;subst hr;rfl) | simp at hr) rfl rfl (by simp;omega) (by simp;omega) ?_)
  repeat refine aa rfl ?_
  refine ⟨k + 1,hlt,by omega,?_,rfl,rfl,congrArg I hw,?_,trivial⟩
  ·rw [hrows k x hx];rfl
  ·rw [hrows k x hx];rfl
 ·have hge : k = l.length := by have := of_decide_eq_false h;omega
  subst hge
  clear h
  rw [List.take_length]
  have hal : (l.map (·.x)).length ≤ 1000000 := by simp;omega
  generalize hX : l.map (·.x) = X at *
  have hsl : (ca X).length ≤ 1000000 := by rw [ca,List.length_mergeSort];exact hal
  ((repeat ((fail_if_success (with_reducible refine aM 7 ?_));refine cF rfl ?_));refine ay 1 ?_)
  refine aa rfl ?_
  refine aS ?_
  refine aI rfl (xz X hal rfl (by simp) rfl ?_)
  refine aD ?_
  ((repeat ((fail_if_success (with_reducible refine aM 8 ?_));refine cF rfl ?_));refine ay 1 ?_)
  refine aa rfl ?_
  refine aS ?_
  refine aI rfl (o6 (ca X) hsl rfl (by simp [ca]) rfl ?_)
  refine aD ?_
  refine h_ rfl trivial ?_
  refine aS ?_
  refine bY ?_
  refine aB (Ghost.cut (k := 3) (t := 2) (rows := (oo (ca X)).map eN) rfl rfl (by rw [List.length_map,jh];exact dJ _) rfl) ?_
  have hc : ((oo (ca X)).map eN).take (Lib.compact (ca X)).length = (bk l).map eN := by
   rw [← List.map_take,oo,List.take_left,bk,hX]
  have hcl : (Lib.compact (ca X)).length = (bk l).length := by rw [bk,hX]
  rw [hc]
  repeat refine aa rfl ?_
  exact fc rfl rfl rfl ⟨rfl,rfl,by show _ = (List.map eN (bk l)).length;rw [List.length_map,hcl]⟩ rfl
theorem iM {l : List SR} {x : Int} (h : x ∈ bk l) : ∃ s ∈ l,s.x = x := by
 have h1 : x ∈ ca (l.map (·.x)) := by
  rw [bk,Lib.compact,Lib.compactUpTo] at h
  obtain ⟨i,hi,rfl⟩ := List.mem_map.1 h
  have hi := (List.mem_filter.1 hi).1
  have hi : i < (ca (l.map (·.x))).length := by simpa using hi
  have e : (ca (l.map (·.x))).toArray[i]! = (ca (l.map (·.x)))[i] := by simp [hi]
  rw [e]
  exact List.getElem_mem hi
 rw [ca,List.mem_mergeSort] at h1
 obtain ⟨s,hs,rfl⟩ := List.mem_map.1 h1
 exact ⟨s,hs,rfl⟩
theorem ez {l : List SR} (hc : bQ l = 0) {x : Int} (h : x ∈ bk l) : -1000000 ≤ x ∧ x ≤ 1000000 := by
 obtain ⟨s,hs,rfl⟩ := iM h
 rw [bQ] at hc
 split at hc
 ·omega
 ·have := iA hc s hs
  rw [kt] at this
  split at this
  ·omega
  ·rename_i h1
   omega
theorem fG (l : List SR) : (bk l).length ≤ l.length := by
 have := dJ (ca (l.map (·.x)))
 rw [bk]
 simp [ca] at this ⊢
 exact this
def iW (x : Int) : AR := ⟨ofQ ((-x : Int) : Rat),ofQ ((1 : Int) : Rat)⟩
def pc (x : Int) : AR := ⟨ofQ (x : Rat),ofQ ((-1 : Int) : Rat)⟩
def bD (l : List SR) : List AR := (bk l).map iW ++ (bk l).map pc
set_option maxRecDepth 20000 in
theorem qy (l : List SR) (hl : fW l) (h12 : l.length ≤ 1000) (hck : bQ l = 0) : Ret Tryz.prog .shared 94 [.sl (l.map eS)] (.sl ((bD l).map eA)) := by
 have hp := lO l hl h12
 have hrg : ∀ x ∈ bk l,-1000000 ≤ x ∧ x ≤ 1000000 := fun x hx => ez hck hx
 have hpl := fG l
 have w1 := aV 1 ⟨by decide,by decide⟩
 have w2 := aV (-1) ⟨by decide,by decide⟩
 rw [bD]
 generalize bk l = Pl at *
 have hml : (Pl.map eN).length = Pl.length := by simp
 have hrows : ∀ (k : Nat) x,Pl[k]? = some x → ((Pl.take (k + 1)).map iW).map eA = ((Pl.take k).map iW).map eA ++ [eA (iW x)] := fun k x hx => by rw [cd hx,List.map_append,List.map_append];rfl
 have hrows2 : ∀ (k : Nat) x,Pl[k]? = some x → (Pl.map iW ++ (Pl.take (k + 1)).map pc).map eA = (Pl.map iW ++ (Pl.take k).map pc).map eA ++ [eA (pc x)] := fun k x hx => by rw [cd hx];simp [List.map_append]
 refine Ret.of_pwp layOk mixed Go.Proofs.Tryz.func94 rfl (by decide) rfl rfl ?_
 ((repeat (first | refine aS ?_ | refine b5 ?_ | refine bY ?_ | refine bX ?_));refine aX ?_)
 refine h_ rfl trivial ?_
 ((repeat (first | refine aS ?_ | refine b5 ?_ | refine bY ?_ | refine bX ?_));refine aX ?_)
 (first | refine ax (eW 62 8 1 rfl rfl ?_) | refine ax (eT 62 8 1 rfl rfl ?_))
 repeat refine aa rfl ?_
 refine ap rfl rfl rfl hp rfl rfl ?_
 repeat refine aa rfl ?_
 refine ao (fun k => k ≤ Pl.length) (fun k => [(0,.sl (l.map eS)),(3,.als 3 (k + 1) 0 (((Pl.take k).map iW).map eA).length),(9,.sl (Pl.map eN)),(10,I Pl.length),(11,I k)]) (fun k => [(3,k + 1,⟨62,8,((Pl.take k).map iW).map eA,1⟩)]) (fun k => Pl.length - k) 0 (Nat.zero_le _) ⟨rfl,rfl,rfl,by rw [← hml];rfl,rfl,rfl,trivial⟩ ?_
 intro k s hk
 repeat refine aa rfl ?_
 refine ab rfl ?_ ?_<;>intro h
 ·have hlt : k < Pl.length := by have := of_decide_eq_true h;omega
  clear h
  obtain ⟨x,hx⟩ := aH hlt
  have hr := hrg x (List.mem_of_getElem? hx)
  have hnx := aV (-x) ⟨by omega,by omega⟩
  have hw := jx k
  have hn : IntKind.i64.wrap (0 - x) = -x := by rw [wrap_i64 (by omega) (by omega)];omega
  repeat refine aa rfl ?_
  refine bO rfl rfl rfl rfl rfl rfl rfl hx rfl ?_
  repeat refine aa rfl ?_
  rw [hn]
  refine ap rfl rfl rfl hnx rfl rfl ?_
  repeat refine aa rfl ?_
  refine ap rfl rfl rfl w1 rfl rfl ?_
  repeat refine aa rfl ?_
  refine ax (br 1 rfl rfl rfl rfl rfl rfl rfl rfl rfl rfl rfl (by repeat' constructor) rfl ?_)
  repeat refine aa rfl ?_
  refine ax (bP 1 rfl rfl rfl rfl rfl rfl rfl rfl rfl rfl rfl (by repeat' constructor) (by intro row hr;first | (simp at hr;subst hr;rfl) | simp at hr) rfl rfl (by simp;omega) (by simp;omega) ?_)
  repeat refine aa rfl ?_
  refine ⟨k + 1,hlt,by omega,rfl,?_,rfl,rfl,congrArg I hw,?_,trivial⟩
  ·rw [hrows k x hx];rfl
  ·rw [hrows k x hx];rfl
 ·have hge : k = Pl.length := by have := of_decide_eq_false h;omega
  subst hge
  clear h
  rw [List.take_length]
  repeat refine aa rfl ?_
  refine ap rfl rfl rfl hp rfl rfl ?_
  repeat refine aa rfl ?_
  refine ao (fun k => k ≤ Pl.length) (fun k => [(3,.als 3 (Pl.length + k + 1) 0 ((Pl.map iW ++ (Pl.take k).map pc).map eA).length),(25,.sl (Pl.map eN)),(26,I Pl.length),(27,I k)]) (fun k => [(3,Pl.length + k + 1,⟨62,8,(Pl.map iW ++ (Pl.take k).map pc).map eA,1⟩)]) (fun k => Pl.length - k) 0 (Nat.zero_le _) ⟨by rw [List.take_zero,List.map_nil,List.append_nil];rfl,rfl,by rw [← hml];rfl,rfl,by rw [List.take_zero,List.map_nil,List.append_nil];rfl,trivial⟩ ?_
  intro k s hk
  repeat refine aa rfl ?_
  refine ab rfl ?_ ?_<;>intro h
  ·have hlt : k < Pl.length := by have := of_decide_eq_true h;omega
   clear h
   obtain ⟨x,hx⟩ := aH hlt
   have hr := hrg x (List.mem_of_getElem? hx)
   have hnx := aV x ⟨by omega,by omega⟩
   have hw := jx k
   repeat refine aa rfl ?_
   refine bO rfl rfl rfl rfl rfl rfl rfl hx rfl ?_
   repeat refine aa rfl ?_
   refine ap rfl rfl rfl hnx rfl rfl ?_
   repeat refine aa rfl ?_
   refine ap rfl rfl rfl w2 rfl rfl ?_
   repeat refine aa rfl ?_
   refine ax (br 1 rfl rfl rfl rfl rfl rfl rfl rfl rfl rfl rfl (by repeat' constructor) rfl ?_)
   repeat refine aa rfl ?_
   refine ax (bP 1 rfl rfl rfl rfl rfl rfl rfl rfl rfl rfl rfl (by repeat' constructor) (by intro row hr;first | (simp at hr;subst hr;rfl) | simp at hr) rfl rfl (by simp;omega) (by simp;omega) ?_)
   repeat refine aa rfl ?_
   refine ⟨k + 1,hlt,by omega,?_,rfl,rfl,congrArg I hw,?_,trivial⟩
   ·rw [hrows2 k x hx];rfl
   ·rw [hrows2 k x hx];rfl
  ·have hge : k = Pl.length := by have := of_decide_eq_false h;omega
   subst hge
   clear h
   rw [List.take_length]
   repeat refine aa rfl ?_
   exact fc rfl rfl rfl (by repeat' constructor) rfl
def bK : AR := ⟨ofQ ((1 : Int) : Rat),ofQ ((0 : Int) : Rat)⟩
noncomputable def cx (b : BR) (r : AR) : Bool := jN b r.z.val r.t.val
noncomputable def dB (b : BR) : PV := if cx b bK = true then .tup [.agg (eA bK),I 12] else match (bD b.l).find? (cx b) with
 |some r => .tup [.agg (eA r),I 13]
 |none => .tup [.agg (zN ++ zN),I 0]
theorem vI {z : Int} (h : i64 z) : Vq (ofQ (z : Rat)) ((ofQ (z : Rat)).val) 4 := by
 have hz : Zb z := a8 h.1 h.2
 have := Vq.ofQ (h := HQ.int (z := z))
 rw [ofQ_val]
 exact this
theorem oK {l : List SR} (hck : bQ l = 0) {r : AR} (h : r ∈ bD l) : Va r r.z.val r.t.val 4 4 := by
 rw [bD,List.mem_append] at h
 rcases h with h | h
 ·obtain ⟨x,hx,rfl⟩ := List.mem_map.1 h
  have := ez hck hx
  exact ⟨vI ⟨by omega,by omega⟩,vI ⟨by decide,by decide⟩⟩
 ·obtain ⟨x,hx,rfl⟩ := List.mem_map.1 h
  have := ez hck hx
  exact ⟨vI ⟨by omega,by omega⟩,vI ⟨by decide,by decide⟩⟩
theorem nZ : Va bK bK.z.val bK.t.val 4 4 := ⟨vI ⟨by decide,by decide⟩,vI ⟨by decide,by decide⟩⟩
theorem tu {α : Type} (p : α → Bool) {l : List α} {i : Nat} {x : α} (h : l[i]? = some x) : (l.drop i).find? p = if p x = true then some x else (l.drop (i + 1)).find? p := by
 obtain ⟨hl,rfl⟩ := List.getElem?_eq_some_iff.1 h
 rw [List.drop_eq_getElem_cons hl,List.find?_cons]
 cases p l[i] <;> simp
set_option maxRecDepth 20000 in
theorem eG (b : BR) (hb : b.Ok) : Ret Tryz.prog .shared 93 [.agg (eB b)] (dB b) := by
 have w1 := aV 1 ⟨by decide,by decide⟩
 have w0 := aV 0 ⟨by decide,by decide⟩
 have hd := ka b hb bK nZ (by decide) (by decide)
 have ht := qy b.l hb.lim.l (by have := hb.few.1;omega) hb.chkL
 have hva : ∀ r ∈ bD b.l,Ret Tryz.prog .shared 116 [.agg (eB b),.agg (eA r)] (.bool (cx b r)) := fun r hr => ka b hb r (oK hb.chkL hr) (by decide) (by decide)
 rw [show jN b bK.z.val bK.t.val = cx b bK from rfl] at hd
 have htl : (bD b.l).length ≤ 1000 := by
  have := fG b.l
  have := hb.few.1
  rw [bD];simp;omega
 generalize hR : dB b = R
 rw [dB] at hR
 generalize bD b.l = T at *
 have hml : (T.map eA).length = T.length := by simp
 generalize hfn : cx b = fn at *
 clear hfn
 obtain ⟨w,ba,l⟩ := b
 simp only at *
 rw [bK] at *
 by_cases h1 : fn ⟨ofQ ((1 : Int) : Rat),ofQ ((0 : Int) : Rat)⟩ = true
 ·rw [if_pos h1] at hR
  rw [h1] at hd
  subst hR
  refine Ret.of_pwp layOk mixed Go.Proofs.Tryz.func93 rfl (by decide) rfl rfl ?_
  repeat refine aa rfl ?_
  refine ap rfl rfl rfl w1 rfl rfl ?_
  repeat refine aa rfl ?_
  refine ap rfl rfl rfl w0 rfl rfl ?_
  repeat refine aa rfl ?_
  refine aY rfl rfl rfl hd rfl rfl rfl ?_
  repeat refine aa rfl ?_
  exact aK rfl rfl rfl
 ·rw [if_neg h1] at hR
  rw [Bool.not_eq_true] at h1
  rw [h1] at hd
  refine Ret.of_pwp layOk mixed Go.Proofs.Tryz.func93 rfl (by decide) rfl rfl ?_
  repeat refine aa rfl ?_
  refine ap rfl rfl rfl w1 rfl rfl ?_
  repeat refine aa rfl ?_
  refine ap rfl rfl rfl w0 rfl rfl ?_
  repeat refine aa rfl ?_
  refine aY rfl rfl rfl hd rfl rfl rfl ?_
  repeat refine aa rfl ?_
  refine ap rfl rfl rfl ht rfl rfl ?_
  repeat refine aa rfl ?_
  refine ao (fun i => i ≤ T.length ∧ (T.drop i).find? fn = T.find? fn) (fun i => [(1,.ptr 1 1 0 0),(2,.ptr 2 1 0 0),(16,.sl (T.map eA)),(17,I T.length),(18,I (i : Nat))]) (fun i => [(1,1,⟨29,6,[eB ⟨w,ba,l⟩],2⟩),(2,1,⟨62,8,[zN ++ zN],2⟩)]) (fun i => T.length - i) 0 ⟨Nat.zero_le _,by rw [List.drop_zero]⟩ ⟨rfl,rfl,rfl,by rw [← hml];rfl,rfl,rfl,rfl,trivial⟩ ?_
  intro i s ⟨hi,hF⟩
  repeat refine aa rfl ?_
  refine ab rfl ?_ ?_<;>intro h
  ·have hlt : i < T.length := by have := of_decide_eq_true h;omega
   clear h
   obtain ⟨r,hr⟩ := aH hlt
   have hrr := hva r (List.mem_of_getElem? hr)
   have hw := jx i
   rw [tu fn hr] at hF
   cases hfr : fn r with
   |true =>
    rw [hfr] at hrr
    rw [if_pos hfr] at hF
    rw [← hF] at hR
    simp only at hR
    subst hR
    repeat refine aa rfl ?_
    refine bO rfl rfl rfl rfl rfl rfl rfl hr rfl ?_
    repeat refine aa rfl ?_
    refine aY rfl rfl rfl hrr rfl rfl rfl ?_
    repeat refine aa rfl ?_
    exact aK rfl rfl rfl
   |false =>
    rw [hfr] at hrr
    rw [if_neg (by rw [hfr];decide)] at hF
    repeat refine aa rfl ?_
    refine bO rfl rfl rfl rfl rfl rfl rfl hr rfl ?_
    repeat refine aa rfl ?_
    refine aY rfl rfl rfl hrr rfl rfl rfl ?_
    repeat refine aa rfl ?_
    exact ⟨i + 1,⟨by omega,hF⟩,by omega,rfl,rfl,rfl,rfl,congrArg I hw,rfl,rfl,trivial⟩
  ·have hie : i = T.length := by have := of_decide_eq_false h;omega
   clear h
   rw [hie,List.drop_length,List.find?_nil] at hF
   rw [← hF] at hR
   simp only at hR
   subst hR
   repeat refine aa rfl ?_
   exact aK rfl rfl rfl
def kq {α : Type} (d : α → Rat) (l : List α) (x : α) : Nat → Nat
 |0 => 0
 |k + 1 => match l[k]? with
  |some y => if d x < d y then kq d l x k else k + 1
  |none => kq d l x k
def pX {α : Type} (d : α → Rat) (l : List α) (x : α) : Nat := kq d l x l.length
def bx {α : Type} (l : List α) (x : α) (k : Nat) : List α := l.take k ++ x :: l.drop k
def iC {α : Type} (d : α → Rat) (l : List α) (x : α) : List α := bx l x (pX d l x)
def aE {α : Type} (d : α → Rat) (l : List α) : List α := l.foldl (iC d) []
theorem su {α : Type} {d : α → Rat} {l : List α} {x : α} {j : Nat} (h2 : j = 0 ∨ ∃ y,l[j - 1]? = some y ∧ d y ≤ d x) : ∀ k,j ≤ k → k ≤ l.length → (∀ q y,j ≤ q → q < k → l[q]? = some y → d x < d y) → kq d l x k = j
 |0,hk,_,_ => by rw [kq];omega
 |k + 1,hk,hl,h1 => by
  obtain ⟨y,hy⟩ : ∃ y,l[k]? = some y := ⟨l[k],List.getElem?_eq_getElem (by omega)⟩
  rw [kq,hy]
  dsimp only
  by_cases he : j = k + 1
  ·subst he
   rcases h2 with h2 | ⟨z,hz,hd⟩
   ·omega
   ·rw [Nat.add_sub_cancel,hy] at hz
    cases hz
    rw [if_neg (by grind)]
  ·rw [if_pos (h1 k y (by omega) (by omega) hy)]
   exact su h2 k (by omega) (by omega) fun q z hq hq2 => h1 q z hq (by omega)
theorem kE {α : Type} {d : α → Rat} {l : List α} {x : α} {j : Nat} (hj : j ≤ l.length) (h1 : ∀ q y,j ≤ q → l[q]? = some y → d x < d y) (h2 : j = 0 ∨ ∃ y,l[j - 1]? = some y ∧ d y ≤ d x) : pX d l x = j :=
 su h2 _ hj (Nat.le_refl _) fun q y hq _ => h1 q y hq
theorem tF {α : Type} (d : α → Rat) (l : List α) (x : α) : (iC d l x).Perm (x :: l) := by
 rw [iC,bx]
 exact List.perm_middle.trans (by rw [List.take_append_drop])
theorem fM {α : Type} (d : α → Rat) (l : List α) (x : α) : aE d (l ++ [x]) = iC d (aE d l) x := by
 rw [aE,List.foldl_append];rfl
theorem cT {α : Type} (d : α → Rat) (l : List α) : (aE d l).Perm l := by
 have : ∀ (l acc : List α),(l.foldl (iC d) acc).Perm (acc ++ l) := by
  intro l
  induction l with
  |nil => intro acc;simp
  |cons x l ih =>
   intro acc
   rw [List.foldl_cons]
   refine (ih _).trans (((tF d acc x).append_right l).trans ?_)
   rw [List.cons_append]
   exact List.perm_middle.symm
 exact this l []
theorem dR {α : Type} (d : α → Rat) (l : List α) : (aE d l).length = l.length := (cT d l).length_eq
theorem lz {α : Type} {l : List α} {x : α} {k : Nat} (hk : k ≤ l.length) : (bx l x k)[k]? = some x := by
 rw [bx,List.getElem?_append_right (by simp;omega)]
 simp [Nat.min_eq_left hk]
theorem ja {α : Type} {l : List α} {x : α} {k q : Nat} (hk : k ≤ l.length) (h : q < k) : (bx l x k)[q]? = l[q]? := by
 rw [bx,List.getElem?_append_left (by simp;omega),List.getElem?_take,if_pos h]
theorem lA {α : Type} {l : List α} {x y : α} {k : Nat} (hk : k + 1 ≤ l.length) (hy : l[k]? = some y) : ((bx l x (k + 1)).set (k + 1) y).set k x = bx l x k := by
 obtain ⟨hlt,rfl⟩ := List.getElem?_eq_some_iff.1 hy
 apply List.ext_getElem?
 intro q
 have hl1 : (bx l x (k + 1)).length = l.length + 1 := by simp [bx];omega
 simp only [List.getElem?_set,List.length_set,hl1]
 by_cases h1 : k = q
 ·subst h1
  rw [if_pos rfl,if_pos (by omega),lz (by omega)]
 ·rw [if_neg h1]
  by_cases h2 : k + 1 = q
  ·subst h2
   rw [if_pos rfl,if_pos (by omega),bx,List.getElem?_append_right (by simp;omega)]
   simp only [List.length_take,Nat.min_eq_left (show k ≤ l.length by omega),Nat.add_sub_cancel_left,List.getElem?_cons_succ,List.getElem?_drop,Nat.add_zero]
   exact (List.getElem?_eq_getElem hlt).symm
  ·rw [if_neg h2]
   rcases Nat.lt_or_ge q k with h | h
   ·rw [ja (by omega) h,ja hk (by omega)]
   ·rw [bx,bx,List.getElem?_append_right (by simp;omega),List.getElem?_append_right (by simp;omega)]
    simp only [List.length_take,Nat.min_eq_left hk,Nat.min_eq_left (show k ≤ l.length by omega)]
    obtain ⟨r,rfl⟩ : ∃ r,q = k + 2 + r := ⟨q - (k + 2),by omega⟩
    rw [show k + 2 + r - (k + 1) = r + 1 by omega,show k + 2 + r - k = r + 1 + 1 by omega,List.getElem?_cons_succ,List.getElem?_cons_succ,List.getElem?_drop,List.getElem?_drop]
    congr 1;omega
theorem jK {α : Type} (d : α → Rat) (l : List α) (x : α) : ∀ k,k ≤ l.length → (kq d l x k = 0 ∨ ∃ y,l[kq d l x k - 1]? = some y ∧ d y ≤ d x) ∧ ∀ q y,kq d l x k ≤ q → q < k → l[q]? = some y → d x < d y
 |0,_ => ⟨.inl rfl,fun q y _ hq => by omega⟩
 |k + 1,hk => by
  obtain ⟨y,hy⟩ : ∃ y,l[k]? = some y := ⟨l[k],List.getElem?_eq_getElem (by omega)⟩
  obtain ⟨h1,h2⟩ := jK d l x k (by omega)
  rw [kq,hy]
  dsimp only
  split
  ·rename_i hlt
   refine ⟨h1,fun q z hq hqk hz => ?_⟩
   by_cases he : q = k
   ·subst he;rw [hy] at hz;cases hz;exact hlt
   ·exact h2 q z hq (by omega) hz
  ·rename_i hlt
   exact ⟨.inr ⟨y,by rw [Nat.add_sub_cancel];exact hy,by grind⟩,fun q z hq hqk => by omega⟩
theorem pr {α : Type} {d : α → Rat} {l : List α} (x : α) (h : l.Pairwise fun a b => d a ≤ d b) : (iC d l x).Pairwise fun a b => d a ≤ d b := by
 obtain ⟨h1,h2⟩ := jK d l x l.length (Nat.le_refl _)
 rw [iC,bx,pX]
 generalize kq d l x l.length = k at *
 have hbefore : ∀ a ∈ l.take k,d a ≤ d x := by
  intro a ha
  rcases h1 with h1 | ⟨y,hy,hyx⟩
  ·subst h1;simp at ha
  ·obtain ⟨i,hi,rfl⟩ := List.getElem_of_mem ha
   have hi' : i < k := by simp at hi;omega
   have hil : i < l.length := by simp at hi;omega
   obtain ⟨hk1,hk2⟩ := List.getElem?_eq_some_iff.1 hy
   rw [List.getElem_take]
   by_cases he : i = k - 1
   ·subst he;rw [hk2];exact hyx
   ·have := List.pairwise_iff_getElem.1 h i (k - 1) hil hk1 (by omega)
    rw [hk2] at this
    grind
 have hbehind : ∀ a ∈ l.drop k,d x ≤ d a := by
  intro a ha
  obtain ⟨i,hi,rfl⟩ := List.getElem_of_mem ha
  have hil : k + i < l.length := by simp at hi;omega
  have := h2 (k + i) l[k + i] (by omega) hil (List.getElem?_eq_getElem hil)
  rw [List.getElem_drop]
  grind
 refine List.pairwise_append.2 ⟨h.sublist (List.take_sublist _ _),List.pairwise_cons.2 ⟨hbehind,h.sublist (List.drop_sublist _ _)⟩,fun a ha b hb => ?_⟩
 rcases List.mem_cons.1 hb with rfl | hb
 ·exact hbefore a ha
 ·have := hbefore a ha
  have := hbehind b hb
  grind
theorem dN {α : Type} (d : α → Rat) (l : List α) : (aE d l).Pairwise fun a b => d a ≤ d b := by
 have : ∀ (l acc : List α),acc.Pairwise (fun a b => d a ≤ d b) → (l.foldl (iC d) acc).Pairwise fun a b => d a ≤ d b := by
  intro l
  induction l with
  |nil => intro acc h;exact h
  |cons x l ih => intro acc h;exact ih _ (pr x h)
 exact this l [] .nil
theorem b_ {L : Lay} {fn : Func} {K : St → PV → Prop} {s : St} (h : fn.results.toList = []) (hk : K s (.tup [])) : ai L fn K .normal s := by
 unfold ai
 exact ⟨[],True,by rw [h];rfl,trivial,hk⟩
structure BN where
 at' : RR
 up : RR
def aZ (b : BN) : List PV := eR b.at' ++ eR b.up
def aJ (b : BN) : Rat := b.at'.val
theorem fY {p q : BN} (h1 : p.at'.sz 7000000) (h2 : q.at'.sz 7000000) : Ret Tryz.prog .shared 205 [.agg (aZ p),.agg (aZ q)] (I (sgn (aJ p - aJ q))) := by
 have hc := nV p.at' q.at' (hx := h1.v) (hy := h2.v) (by decide) (by decide)
 rw [show p.at'.val - q.at'.val = aJ p - aJ q from rfl] at hc
 generalize sgn (aJ p - aJ q) = g at *
 obtain ⟨pa,pu⟩ := p
 obtain ⟨qa,qu⟩ := q
 simp only at *
 refine Ret.of_pwp layOk mixed Go.Proofs.Tryz.func205 rfl (by decide) rfl rfl ?_
 repeat refine aa rfl ?_
 refine aY rfl rfl rfl hc rfl rfl rfl ?_
 repeat refine aa rfl ?_
 exact bu rfl rfl rfl
set_option maxRecDepth 20000 in
theorem AA {K : St → Prop} {s : St} {d g : Nat} {x y z c : Operand} {tys : Array TypeId} {ty : TypeId} {pos : String} {af : Array Edge} (l : List BN) (hl : l.length ≤ 1000)
  (hx : s.ev x = .als 5 g 0 (l.map aZ).length) (hy : s.ev y = I 0) (hz : s.ev z = I l.length) (hc : s.ev c = .clo 205 [])
  (hd : ∀ p ∈ l,p.at'.sz 7000000)
  (ho : FitO s [(5,g,⟨206,8,l.map aZ,1⟩)])
  (hK : ∀ s1 : St,K (({ reg := s.reg,own := (s1.over [] [(5,g,⟨206,8,(aE aJ l).map aZ,1⟩)]).own } : St).putR d (.tup []))) :
  Sm Tryz.prog lay.get s ⟨some d,.call ⟨.value (.func 226),#[x,y,z,c],tys⟩,ty,pos,af,none⟩ K := by
 refine bB layOk rfl rfl Tryz.func226 rfl (by decide) rfl rfl ?_
 show PWP _ _ _ _ (aP s (([x,y,z,c] : List Operand).map s.ev ++ []))
 rw [show (([x,y,z,c] : List Operand).map s.ev ++ ([] : List PV)) = [.als 5 g 0 (l.map aZ).length,I 0,I l.length,.clo 205 []] by simp [hx,hy,hz,hc]]
 rw [show aP s [.als 5 g 0 (l.map aZ).length,I 0,I l.length,.clo 205 []] = aP (s.over [] [(5,g,⟨206,8,l.map aZ,1⟩)]) [.als 5 g 0 (l.map aZ).length,I 0,I l.length,.clo 205 []] by rw [Fit.over (l := []) ho]]
 have hen : (l.map aZ).length = l.length := by rw [List.length_map]
 have h1s : aE aJ (l.take 1) ++ l.drop 1 = l := by
  cases l with
  |nil => rfl
  |cons x r => rfl
 repeat refine aa rfl ?_
 refine ao (fun i => 1 ≤ i ∧ (i ≤ l.length ∨ i = 1)) (fun i => [(0,.als 5 g 0 (l.map aZ).length),(1,I 0),(2,I l.length),(3,.clo 205 []),(8,I i)])
  (fun i => [(5,g,⟨206,8,(aE aJ (l.take i) ++ l.drop i).map aZ,1⟩)]) (fun i => l.length + 1 - i) 1 ⟨Nat.le_refl _,.inr rfl⟩ ⟨rfl,rfl,rfl,rfl,rfl,by rw [h1s];rfl,trivial⟩ ?_
 rintro i s1 ⟨hi1,hi⟩
 repeat refine aa rfl ?_
 refine ab rfl ?_ ?_<;>intro h
 ·have hlt : i < l.length := by have := of_decide_eq_true h;omega
  clear h
  obtain ⟨p,hp⟩ := aH hlt
  have hx0 := hp
  have htk : l.take (i + 1) = l.take i ++ [p] := cd hx0
  have hdr : l.drop i = p :: l.drop (i + 1) := by
   obtain ⟨hl1,h2⟩ := List.getElem?_eq_some_iff.1 hx0
   rw [List.drop_eq_getElem_cons hl1,h2]
  generalize hP : aE aJ (l.take i) = P at *
  have hPl : P.length = i := by rw [← hP,dR,List.length_take];omega
  have hstart : P ++ l.drop i = bx P p i ++ l.drop (i + 1) := by
   have hti : P.take i = P := List.take_of_length_le (by omega)
   have hdi : P.drop i = [] := List.drop_eq_nil_of_le (by omega)
   rw [hdr,bx,hti,hdi];simp
  repeat refine aa rfl ?_
  refine ao (fun j => j ≤ i ∧ ∀ q y,j ≤ q → P[q]? = some y → aJ p < aJ y) (fun j => [(0,.als 5 g 0 (l.map aZ).length),(1,I 0),(2,I l.length),(3,.clo 205 []),(8,I i),(9,I j)])
   (fun j => [(5,g,⟨206,8,(bx P p j ++ l.drop (i + 1)).map aZ,1⟩)]) (fun j => j) i ⟨Nat.le_refl _,fun q y hq hy => by rw [List.getElem?_eq_none (by omega)] at hy;cases hy⟩ ⟨rfl,rfl,rfl,rfl,rfl,rfl,by rw [hstart];rfl,trivial⟩ ?_
  rintro j s2 ⟨hj,hpre⟩
  repeat refine aa rfl ?_
  refine ah 17 [18,19,20,21,22,23,24,25,26,27,28,29,30,31,32,33,34] (by decide +kernel) ?_
  repeat refine aa rfl ?_
  refine fU rfl rfl rfl ?_ ?_<;>intro h
  ·have hj0 : 0 < j := by have := of_decide_eq_true h;omega
   clear h
   obtain ⟨k,rfl⟩ : ∃ k,j = k + 1 := ⟨j - 1,by omega⟩
   have hrow : ((bx P p (k + 1) ++ l.drop (i + 1)).map aZ)[k + 1]? = some (aZ p) := by
    rw [List.getElem?_map,List.getElem?_append_left (by simp [bx];omega),lz (by omega)];rfl
   obtain ⟨y,hy1⟩ := aH (show k < P.length by omega)
   have hrow2 : ((bx P p (k + 1) ++ l.drop (i + 1)).map aZ)[k]? = some (aZ y) := by
    rw [List.getElem?_map,List.getElem?_append_left (by simp [bx];omega),ja (by omega) (by omega),hy1];rfl
   have hym : y ∈ l := List.mem_of_mem_take ((cT aJ _).mem_iff.1 (hP ▸ List.mem_of_getElem? hy1))
   have hw1 : IntKind.i64.wrap (((k + 1 : Nat) : Int) - 1) = (k : Nat) := by rw [wrap_i64 (by omega) (by omega)];omega
   repeat refine aa rfl ?_
   refine bp rfl rfl (bg rfl rfl rfl rfl rfl rfl rfl (by omega) (by rw [hen];omega)) ?_
   rw [Int.toNat_natCast,Nat.zero_add (k + 1)]
   refine bp rfl rfl (bG rfl rfl rfl hrow rfl) ?_
   repeat refine aa rfl ?_
   rw [hw1]
   refine bp rfl rfl (bg rfl rfl rfl rfl rfl rfl rfl (by omega) (by rw [hen];omega)) ?_
   rw [Int.toNat_natCast,Nat.zero_add k]
   refine bp rfl rfl (bG rfl rfl rfl hrow2 rfl) ?_
   repeat refine aa rfl ?_
   refine aY rfl rfl rfl (fY (hd p (List.mem_of_getElem? hp)) (hd y hym)) rfl rfl rfl ?_
   repeat refine aa rfl ?_
   refine ab rfl ?_ ?_<;>intro h
   ·have hlt2 : aJ p < aJ y := by have := (cg _).1 (of_decide_eq_true h);grind
    clear h
    repeat refine aa rfl ?_
    refine bj 15 0 [37,38,39,40,41,42,43,44,45,46,47,48,49,50,51] [2,3,4] (by decide +kernel) rfl ?_
    repeat refine aa rfl ?_
    rw [hw1]
    refine bp rfl rfl (bg rfl rfl rfl rfl rfl rfl rfl (by omega) (by rw [hen];omega)) ?_
    rw [Int.toNat_natCast,Nat.zero_add k]
    refine bp rfl rfl (bG rfl rfl rfl hrow2 rfl) ?_
    repeat refine aa rfl ?_
    refine bp rfl rfl (bg rfl rfl rfl rfl rfl rfl rfl (by omega) (by rw [hen];omega)) ?_
    rw [Int.toNat_natCast,Nat.zero_add (k + 1)]
    refine bp rfl rfl (bG rfl rfl rfl hrow rfl) ?_
    repeat refine aa rfl ?_
    refine bp rfl rfl (bg rfl rfl rfl rfl rfl rfl rfl (by omega) (by rw [hen];omega)) ?_
    rw [Int.toNat_natCast,Nat.zero_add (k + 1)]
    repeat refine aa rfl ?_
    refine be (bc (kd' := 1) rfl rfl rfl hrow rfl rfl (by repeat' constructor) rfl rfl rfl rfl ?_)
    refine bp rfl rfl (bg rfl rfl rfl rfl rfl rfl rfl (by omega) (by rw [hen];omega)) ?_
    rw [Int.toNat_natCast,Nat.zero_add k]
    refine be (bc (kd' := 1) rfl rfl rfl (row := aZ y) (by
     show (((bx P p (k + 1) ++ l.drop (i + 1)).map aZ).set (k + 1) _)[k]? = _
     rw [List.getElem?_set_ne (by omega)];exact hrow2) rfl rfl (by repeat' constructor) rfl rfl rfl rfl ?_)
    repeat refine aa rfl ?_
    refine ⟨k,⟨by omega,fun q z hq hz => ?_⟩,by omega,rfl,rfl,rfl,rfl,rfl,?_,?_,trivial⟩
    ·by_cases hqk : q = k
     ·subst hqk;rw [hy1] at hz;cases hz;exact hlt2
     ·exact hpre q z (by omega) hz
    ·exact congrArg I hw1
    ·refine Eq.trans (b := (g,some (Cont.mk 206 8 ((((bx P p (k + 1) ++ l.drop (i + 1)).map aZ).set (k + 1) (aZ y)).set k (aZ p)) 1))) rfl ?_
     rw [← List.map_set,← List.map_set,List.set_append_left _ _ (by simp [bx];omega),List.set_append_left _ _ (by simp [bx];omega),lA (by omega) hy1]
   ·have hge2 : aJ y ≤ aJ p := by
     have h9 := of_decide_eq_false h
     rw [cg] at h9
     grind
    clear h
    have hpos : pX aJ P p = k + 1 := kE (by omega) hpre (.inr ⟨y,hy1,hge2⟩)
    have hins : aE aJ (l.take (i + 1)) = bx P p (k + 1) := by rw [htk,fM,hP,iC,hpos]
    repeat refine aa rfl ?_
    refine ⟨i + 1,⟨by omega,.inl (by omega)⟩,by omega,rfl,rfl,rfl,rfl,bI (by omega) (by omega),?_,trivial⟩
    rw [hins];rfl
  ·have hj0 : j = 0 := by have := of_decide_eq_false h;omega
   subst hj0
   clear h
   have hpos : pX aJ P p = 0 := kE (by omega) hpre (.inl rfl)
   have hins : aE aJ (l.take (i + 1)) = bx P p 0 := by rw [htk,fM,hP,iC,hpos]
   repeat refine aa rfl ?_
   refine ⟨i + 1,⟨by omega,.inl (by omega)⟩,by omega,rfl,rfl,rfl,rfl,bI (by omega) (by omega),?_,trivial⟩
   rw [hins];rfl
 ·have hge : l.length ≤ i := by have := of_decide_eq_false h;omega
  have hend : aE aJ (l.take i) ++ l.drop i = aE aJ l := by
   rw [List.take_of_length_le hge,List.drop_eq_nil_of_le hge,List.append_nil]
  rw [hend]
  repeat refine aa rfl ?_
  exact b_ rfl (hK s1)
set_option maxRecDepth 20000 in
theorem rE {K : St → Prop} {s : St} {d g : Nat} {x z c : Operand} {tys : Array TypeId} {ty : TypeId} {pos : String} {af : Array Edge} (l : List BN) (hl : l.length ≤ 19)
  (hx : s.ev x = .als 5 g 0 (l.map aZ).length) (hz : s.ev z = I l.length) (hc : s.ev c = .clo 205 [])
  (hd : ∀ p ∈ l,p.at'.sz 7000000)
  (ho : FitO s [(5,g,⟨206,8,l.map aZ,1⟩)])
  (hK : ∀ s1 : St,K (({ reg := s.reg,own := (s1.over [] [(5,g,⟨206,8,(aE aJ l).map aZ,1⟩)]).own } : St).putR d (.tup []))) :
  Sm Tryz.prog lay.get s ⟨some d,.call ⟨.value (.func 219),#[x,z,c],tys⟩,ty,pos,af,none⟩ K := by
 refine bB layOk rfl rfl Tryz.func219 rfl (by decide) rfl rfl ?_
 show PWP _ _ _ _ (aP s (([x,z,c] : List Operand).map s.ev ++ []))
 rw [show (([x,z,c] : List Operand).map s.ev ++ ([] : List PV)) = [.als 5 g 0 (l.map aZ).length,I l.length,.clo 205 []] by simp [hx,hz,hc]]
 rw [show aP s [.als 5 g 0 (l.map aZ).length,I l.length,.clo 205 []] = aP (s.over [] [(5,g,⟨206,8,l.map aZ,1⟩)]) [.als 5 g 0 (l.map aZ).length,I l.length,.clo 205 []] by rw [Fit.over (l := []) ho]]
 repeat refine aa rfl ?_
 refine ao (fun _ : Unit => True) (fun _ => [(0,.als 5 g 0 (l.map aZ).length),(1,I l.length),(2,.clo 205 []),(6,I 20),(7,I 0),(8,I 20)])
  (fun _ => [(5,g,⟨206,8,l.map aZ,1⟩)]) (fun _ => 0) () trivial ⟨rfl,rfl,rfl,rfl,rfl,rfl,rfl,trivial⟩ ?_
 rintro _ s1 -
 repeat refine aa rfl ?_
 refine ab rfl ?_ ?_<;>intro h
 ·have := of_decide_eq_true h;omega
 clear h
 ((repeat ((fail_if_success (with_reducible refine aM 6 ?_));refine cF rfl ?_));refine ay 4 ?_)
 repeat refine aa rfl ?_
 refine aI rfl (AA l (by omega) rfl rfl rfl rfl hd ⟨rfl,trivial⟩ fun s2 => ?_)
 refine aD ?_
 repeat refine aa rfl ?_
 refine ao (fun _ : Unit => True) (fun _ => [(1,I l.length),(6,I 20)])
  (fun _ => [(5,g,⟨206,8,(aE aJ l).map aZ,1⟩)]) (fun _ => 0) () trivial ⟨rfl,rfl,rfl,trivial⟩ ?_
 rintro _ s3 -
 repeat refine aa rfl ?_
 refine ab rfl ?_ ?_<;>intro h
 ·have := of_decide_eq_true h;omega
 clear h
 repeat refine aa rfl ?_
 exact b_ rfl (hK s3)
section
variable {α : Type}
theorem oI (P M S : List α) (x y : α) : ((P ++ x :: (M ++ y :: S)).set P.length y).set (P.length + 1 + M.length) x = P ++ y :: (M ++ x :: S) := by
 rw [List.set_append_right _ _ (Nat.le_refl _),Nat.sub_self,List.set_cons_zero,List.set_append_right _ _ (by omega),show P.length + 1 + M.length - P.length = M.length + 1 by omega,List.set_cons_succ,List.set_append_right _ _ (Nat.le_refl _),Nat.sub_self,List.set_cons_zero]
theorem od (P M S : List α) (x y : α) : (P ++ x :: (M ++ y :: S))[P.length]? = some x := by
 rw [List.getElem?_append_right (Nat.le_refl _),Nat.sub_self];rfl
theorem oe (P M S : List α) (x y : α) : (P ++ x :: (M ++ y :: S))[P.length + 1 + M.length]? = some y := by
 rw [List.getElem?_append_right (by omega),show P.length + 1 + M.length - P.length = M.length + 1 by omega,List.getElem?_cons_succ,List.getElem?_append_right (Nat.le_refl _),Nat.sub_self];rfl
def qt (P X M Y S : List α) (k : Nat) : List α := P ++ Y.take k ++ X.drop k ++ M ++ X.take k ++ Y.drop k ++ S
theorem fN {l : List α} {k : Nat} {x : α} (hx : l[k]? = some x) : l.take (k + 1) = l.take k ++ [x] := by rw [List.take_add_one,hx];rfl
theorem dV {l : List α} {k : Nat} {x : α} (hx : l[k]? = some x) : l.drop k = x :: l.drop (k + 1) := by
 obtain ⟨hl,e⟩ := List.getElem?_eq_some_iff.1 hx
 rw [List.drop_eq_getElem_cons hl,e]
theorem rI {P X M Y S : List α} {k : Nat} {x y : α} (hx : X[k]? = some x) (hy : Y[k]? = some y) : qt P X M Y S k = (P ++ Y.take k) ++ x :: ((X.drop (k + 1) ++ M ++ X.take k) ++ y :: (Y.drop (k + 1) ++ S)) := by
 rw [qt,dV hx,dV hy];simp [List.append_assoc]
theorem xG {P X M Y S : List α} {k : Nat} {x y : α} (hx : X[k]? = some x) (hy : Y[k]? = some y) : qt P X M Y S (k + 1) = (P ++ Y.take k) ++ y :: ((X.drop (k + 1) ++ M ++ X.take k) ++ x :: (Y.drop (k + 1) ++ S)) := by
 rw [qt,fN hx,fN hy];simp [List.append_assoc]
theorem xH (P X M Y S : List α) : qt P X M Y S 0 = P ++ X ++ M ++ Y ++ S := by simp [qt]
theorem y7 {P X M Y S : List α} (h : X.length = Y.length) : qt P X M Y S X.length = P ++ Y ++ M ++ X ++ S := by
 rw [qt,List.take_length,List.drop_length,h,List.take_length,List.drop_length];simp [List.append_assoc]
theorem y8 {P X M Y S : List α} {k : Nat} {x y : α} (hx : X[k]? = some x) (hy : Y[k]? = some y) : (qt P X M Y S k)[P.length + k]? = some x := by
 have hk : k < Y.length := (List.getElem?_eq_some_iff.1 hy).1
 have h := od (P ++ Y.take k) (X.drop (k + 1) ++ M ++ X.take k) (Y.drop (k + 1) ++ S) x y
 rw [rI hx hy]
 rwa [show (P ++ Y.take k).length = P.length + k by simp;omega] at h
theorem Bz {P X M Y : List α} {k : Nat} (hx : k < X.length) (hy : k < Y.length) : (P ++ Y.take k).length + 1 + (X.drop (k + 1) ++ M ++ X.take k).length = P.length + X.length + M.length + k := by simp;omega
theorem y_ {P X M Y S : List α} {k : Nat} {x y : α} (hx : X[k]? = some x) (hy : Y[k]? = some y) : (qt P X M Y S k)[P.length + X.length + M.length + k]? = some y := by
 have h := oe (P ++ Y.take k) (X.drop (k + 1) ++ M ++ X.take k) (Y.drop (k + 1) ++ S) x y
 rw [rI hx hy]
 rwa [Bz (List.getElem?_eq_some_iff.1 hx).1 (List.getElem?_eq_some_iff.1 hy).1] at h
theorem y9 {P X M Y S : List α} {k : Nat} {x y : α} (hx : X[k]? = some x) (hy : Y[k]? = some y) : ((qt P X M Y S k).set (P.length + k) y).set (P.length + X.length + M.length + k) x = qt P X M Y S (k + 1) := by
 have hk : k < Y.length := (List.getElem?_eq_some_iff.1 hy).1
 have h := oI (P ++ Y.take k) (X.drop (k + 1) ++ M ++ X.take k) (Y.drop (k + 1) ++ S) x y
 rw [xG hx hy,← h,rI hx hy,Bz (List.getElem?_eq_some_iff.1 hx).1 hk,show (P ++ Y.take k).length = P.length + k by simp;omega]
variable {key : α → Rat}
def eg (key : α → Rat) (l : List α) : Prop := l.Pairwise fun x y => key x ≤ key y
theorem jr {l : List α} {t : Nat} {v : α} (h : eg key l) (hv : l[t]? = some v) : ∀ y ∈ l.drop t,key v ≤ key y := by
 have h2 : eg key (l.drop t) := List.Pairwise.sublist (List.drop_sublist t l) h
 rw [dV hv] at h2 ⊢
 intro y hy
 rcases List.mem_cons.1 hy with rfl | hy
 ·exact Rat.le_refl
 ·exact (List.pairwise_cons.1 h2).1 y hy
theorem js {l : List α} {t : Nat} {v : α} (h : eg key l) (hv : l[t]? = some v) : ∀ y ∈ l.take (t + 1),key y ≤ key v := by
 have h2 : eg key (l.take (t + 1)) := List.Pairwise.sublist (List.take_sublist (t + 1) l) h
 rw [fN hv] at h2 ⊢
 intro y hy
 rcases List.mem_append.1 hy with hy | hy
 ·exact (List.pairwise_append.1 h2).2.2 y hy v (List.mem_singleton_self _)
 ·rw [List.mem_singleton.1 hy];exact Rat.le_refl
def x5 (key : α → Rat) (A B : List α) : Prop := ∀ x ∈ A,∀ y ∈ B,key x ≤ key y
theorem x_ {U V : List α} (hU : eg key U) (hV : eg key V) {s t : Nat} (h : s = 0 ∨ t = V.length ∨ ∃ s' u v,s = s' + 1 ∧ U[s']? = some u ∧ V[t]? = some v ∧ key u ≤ key v) : x5 key (U.take s) (V.drop t) := by
 intro x hx y hy
 rcases h with rfl | rfl | ⟨s',u,v,rfl,hu,hv,huv⟩
 ·simp at hx
 ·simp at hy
 ·have h1 := js hU hu x hx
  have h2 := jr hV hv y hy
  grind
theorem kJ {A B : List α} (hA : eg key A) (hB : eg key B) (h : x5 key A B) : eg key (A ++ B) := List.pairwise_append.2 ⟨hA,hB,h⟩
theorem gz {l : List α} (h : eg key l) (n : Nat) : eg key (l.take n) := List.Pairwise.sublist (List.take_sublist n l) h
theorem gy {l : List α} (h : eg key l) (n : Nat) : eg key (l.drop n) := List.Pairwise.sublist (List.drop_sublist n l) h
theorem oa {U V W1 W2 : List α} (hU : eg key U) (hV : eg key V) {s t : Nat} (c1 : x5 key (U.take s) (V.drop t)) (c2 : x5 key (V.take t) (U.drop s)) (p1 : W1.Perm (U.take s ++ V.take t)) (p2 : W2.Perm (U.drop s ++ V.drop t)) (s1 : eg key W1) (s2 : eg key W2) :
  eg key (W1 ++ W2) ∧ (W1 ++ W2).Perm (U ++ V) := by
 have b1 : x5 key (U.take s) (U.drop s) := by
  have h := hU;rw [← List.take_append_drop s U] at h;exact (List.pairwise_append.1 h).2.2
 have b2 : x5 key (V.take t) (V.drop t) := by
  have h := hV;rw [← List.take_append_drop t V] at h;exact (List.pairwise_append.1 h).2.2
 refine ⟨kJ s1 s2 fun x hx y hy => ?_,?_⟩
 ·have hx := List.mem_append.1 (p1.mem_iff.1 hx)
  have hy := List.mem_append.1 (p2.mem_iff.1 hy)
  rcases hx with hx | hx <;> rcases hy with hy | hy
  ·exact b1 x hx y hy
  ·exact c1 x hx y hy
  ·exact c2 x hx y hy
  ·exact b2 x hx y hy
 ·refine (p1.append p2).trans ?_
  have e : U ++ V = U.take s ++ (U.drop s ++ V) := by rw [← List.append_assoc,List.take_append_drop]
  rw [e,List.append_assoc]
  refine List.Perm.append_left _ ?_
  have e2 : U.drop s ++ V = U.drop s ++ (V.take t ++ V.drop t) := by rw [List.take_append_drop]
  rw [e2,← List.append_assoc,← List.append_assoc]
  exact List.Perm.append_right _ List.perm_append_comm
theorem mW {V : List α} (hV : eg key V) {u : α} {t : Nat} (c1 : ∀ y ∈ V.take t,key y ≤ key u) (c2 : ∀ y ∈ V.drop t,key u ≤ key y) : eg key (V.take t ++ u :: V.drop t) := by
 have b2 : x5 key (V.take t) (V.drop t) := by
  have h := hV;rw [← List.take_append_drop t V] at h;exact (List.pairwise_append.1 h).2.2
 refine kJ (gz hV t) (List.pairwise_cons.2 ⟨c2,gy hV t⟩) fun x hx y hy => ?_
 rcases List.mem_cons.1 hy with rfl | hy
 ·exact c1 x hx
 ·exact b2 x hx y hy
theorem pP (V : List α) (u : α) (t : Nat) : (V.take t ++ u :: V.drop t).Perm (u :: V) := by
 refine List.perm_middle.trans ?_
 rw [List.take_append_drop]
end
end Go.Pv
