/- Texts of one hand, gathered: FbO, FbP, FbQ, FrA, FrB, FrC, FrD, FrE, FrF, FrG, FrH, FaE, FmA, FmB, FcA, PvRg, FcB, FcC, FmC, FmD, FmE, FmF, FmG, FmH, FmI, FcD, FcE, FcF, FcG, FcH, FcI, FcJ, FcK, FcL, FcM, FcN, FcO, FcP, LeC, Shelf. -/
import Derived.Test.YtjejnoojnndnlaaGreatEa3
import Derived.Sort.Grow
import Derived.Shelf.GgSortFunc.RowK
import Derived.Shelf.Sort.Plain
import Derived.Ground.Names2Prog
import Derived.Shelf.Slices.CompactI
import Derived.Shelf.Slices.Cells
import Derived.Shelf.Slices.In.SortNone
import Derived.Test.YtjejnoojnndnlaaGreatProg
set_option linter.unusedSectionVars false
set_option linter.unusedSimpArgs false
set_option linter.unusedVariables false
set_option linter.unnecessarySimpa false
set_option maxHeartbeats 2000000
namespace Go.Pv
attribute [local irreducible] PWP POps PQuiet PSem aC au aj ai
open Go.Proofs
theorem dI {x : RR} {n : Nat} (h : x.d.l.length ≤ n) : (dn x).l.length ≤ n + 1 := ze (by omega) (by omega)
theorem gS (x : RR) : (dn x).val ≠ 0 := by rw [Ne,RI.val_zero];exact qV x
theorem p5 {z : Int} (h : z ≠ 0) : nv (bz z).l ≠ 0 := by rw [jJ,aD];omega
theorem nA (a : RI) : Ret Tryz.prog .shared 183 [.agg (eI a)] (.agg (eI ⟨!a.neg,a.l⟩)) := by
 obtain ⟨an,al⟩ := a
 refine Ret.of_pwp layOk mixed Go.Proofs.Tryz.func183 rfl (by decide) rfl rfl ?_
 repeat refine ac rfl ?_
 exact aF rfl rfl rfl
theorem kR (x : RR) (hn : x.n.l.length ≤ 80000000) (hd : x.d.l.length ≤ 80000000) : Ret Tryz.prog .shared 159 [.agg (eR x)] (.agg (eR (ofQ x.val))) := by
 have hb := cn x (by omega)
 have hf := co x.n (dn x) (by omega) (by have := dI hd;omega) (qV x)
 rw [← RR.val_dn] at hf
 generalize dn x = D at *
 generalize ofQ x.val = X at *
 refine Ret.of_pwp layOk mixed Go.Proofs.Tryz.func159 rfl (by decide) rfl rfl ?_
 repeat refine ac rfl ?_
 refine am 5 [3,4,5,6,7] (by decide +kernel) ?_
 repeat refine ac rfl ?_
 refine aq rfl rfl rfl hb rfl rfl ?_
 repeat refine ac rfl ?_
 refine aq rfl rfl rfl hf rfl rfl ?_
 repeat refine ac rfl ?_
 exact aF rfl rfl rfl
theorem nw (x : RR) (hn : x.n.l.length ≤ 80000000) (hd : x.d.l.length ≤ 80000000) : Ret Tryz.prog .shared 154 [.agg (eR x)] (.agg (eR (ofQ (-x.val)))) := by
 have hb := cn x (by omega)
 have ho := nA x.n
 have hf := co ⟨!x.n.neg,x.n.l⟩ (dn x) (by simp only;omega) (by have := dI hd;omega) (qV x)
 have e : (RI.mk (!x.n.neg) x.n.l).val = -x.n.val := by unfold RI.val;cases x.n.neg <;> simp
 rw [e,← xV,← RR.val_dn] at hf
 generalize dn x = D at *
 generalize ofQ (-x.val) = X at *
 generalize RI.mk (!x.n.neg) x.n.l = N at *
 refine Ret.of_pwp layOk mixed Go.Proofs.Tryz.func154 rfl (by decide) rfl rfl ?_
 repeat refine ac rfl ?_
 refine am 6 [3,4,5,6,7,8] (by decide +kernel) ?_
 repeat refine ac rfl ?_
 refine aq rfl rfl rfl ho rfl rfl ?_
 repeat refine ac rfl ?_
 refine aq rfl rfl rfl hb rfl rfl ?_
 repeat refine ac rfl ?_
 refine aq rfl rfl rfl hf rfl rfl ?_
 repeat refine ac rfl ?_
 exact aF rfl rfl rfl
theorem n6 (x y : RR) (hxn : x.n.l.length ≤ 20000000) (hxd : x.d.l.length ≤ 20000000) (hyn : y.n.l.length ≤ 20000000) (hyd : y.d.l.length ≤ 20000000) : Ret Tryz.prog .shared 106 [.agg (eR x),.agg (eR y)] (.agg (eR (ofQ (x.val + y.val)))) := by
 have hzx := gW x (by omega)
 have hzy := gW y (by omega)
 have hlx := kR x (by omega) (by omega)
 have hly := kR y (by omega) (by omega)
 have hbx := cn x (by omega)
 have hby := cn y (by omega)
 have hdx := dI hxd
 have hdy := dI hyd
 have l1 := bL x.n (dn y)
 have l2 := bL y.n (dn x)
 have l3 := bL (dn x) (dn y)
 have m1 := dU x.n (dn y) (by omega) (by omega)
 have m2 := dU y.n (dn x) (by omega) (by omega)
 have m3 := dU (dn x) (dn y) (by omega) (by omega)
 have l4 := oY (bz (x.n.val * (dn y).val)) (bz (y.n.val * (dn x).val)) (n := 45000000) (by omega) (by omega)
 have m4 := tT (bz (x.n.val * (dn y).val)) (bz (y.n.val * (dn x).val)) (by omega) (by omega)
 rw [bu,bu] at m4 l4
 have m5 := co (bz (x.n.val * (dn y).val + y.n.val * (dn x).val)) (bz ((dn x).val * (dn y).val)) (by omega) (by omega) (p5 (Int.mul_ne_zero (gS x) (gS y)))
 rw [bu,bu,← nF _ _ _ _ (gS x) (gS y),← RR.val_dn,← RR.val_dn] at m5
 have e0 : x.val = 0 → ofQ (x.val + y.val) = ofQ y.val := fun h => by rw [h,Rat.zero_add]
 have e1 : y.val = 0 → ofQ (x.val + y.val) = ofQ x.val := fun h => by rw [h,Rat.add_zero]
 generalize bz (x.n.val * (dn y).val + y.n.val * (dn x).val) = W5 at *
 generalize bz (x.n.val * (dn y).val) = W1 at *
 generalize bz (y.n.val * (dn x).val) = W2 at *
 generalize bz ((dn x).val * (dn y).val) = W3 at *
 generalize dn x = A at *
 generalize dn y = B at *
 generalize ofQ (x.val + y.val) = X at *
 generalize ofQ x.val = X1 at *
 generalize ofQ y.val = X2 at *
 generalize x.val = xv at *
 generalize y.val = yv at *
 refine Ret.of_pwp layOk mixed Go.Proofs.Tryz.func106 rfl (by decide) rfl rfl ?_
 repeat refine ac rfl ?_
 refine aT rfl rfl rfl hzx rfl rfl rfl ?_
 repeat refine ac rfl ?_
 refine ae rfl ?_ ?_<;>intro h
 ·have e := e0 (of_decide_eq_true h)
  subst e
  clear h
  repeat refine ac rfl ?_
  refine aq rfl rfl rfl hly rfl rfl ?_
  repeat refine ac rfl ?_
  exact aF rfl rfl rfl
 clear h
 repeat refine ac rfl ?_
 refine aT rfl rfl rfl hzy rfl rfl rfl ?_
 repeat refine ac rfl ?_
 refine ae rfl ?_ ?_<;>intro h
 ·have e := e1 (of_decide_eq_true h)
  subst e
  clear h
  repeat refine ac rfl ?_
  refine aq rfl rfl rfl hlx rfl rfl ?_
  repeat refine ac rfl ?_
  exact aF rfl rfl rfl
 clear h
 repeat refine ac rfl ?_
 refine aZ 4 2 [15,16,17,18,5,6] [] (by decide +kernel) rfl ?_
 repeat refine ac rfl ?_
 refine aq rfl rfl rfl hbx rfl rfl ?_
 repeat refine ac rfl ?_
 refine aq rfl rfl rfl hby rfl rfl ?_
 repeat refine ac rfl ?_
 refine am 13 [19,20,21,22,23,24,25,26,27,28,29,30,31] (by decide +kernel) ?_
 repeat refine ac rfl ?_
 refine aq rfl rfl rfl m1 rfl rfl ?_
 repeat refine ac rfl ?_
 refine aq rfl rfl rfl m2 rfl rfl ?_
 repeat refine ac rfl ?_
 refine aq rfl rfl rfl m4 rfl rfl ?_
 repeat refine ac rfl ?_
 refine aq rfl rfl rfl m3 rfl rfl ?_
 repeat refine ac rfl ?_
 refine aq rfl rfl rfl m5 rfl rfl ?_
 repeat refine ac rfl ?_
 exact aF rfl rfl rfl
theorem c7 {q : Rat} {n : Nat} (h : hq q n) : (ofQ q).n.l.length ≤ n ∧ (ofQ q).d.l.length ≤ n := (gE h).ok
theorem dj (x y : RR) {p q : Rat} {n m : Nat} [hx : Vq x p n] [hy : Vq y q m] (hn : n ≤ 20000000) (hm : m ≤ 20000000) : Ret Tryz.prog .shared 106 [.agg (eR x),.agg (eR y)] (.agg (eR (ofQ (p + q)))) := by
 have h1 := hx.sz
 have h2 := hy.sz
 have := n6 x y (by omega) (by omega) (by omega) (by omega)
 rwa [hx.val,hy.val] at this
theorem u6 {x : RR} {n : Nat} (h1 : x.n.l.length ≤ n) (h2 : x.d.l.length ≤ n) : (ofQ (-x.val)).n.l.length ≤ n + 1 ∧ (ofQ (-x.val)).d.l.length ≤ n + 1 :=
 c7 (kK (SZ.hq (x := x) ⟨h1,h2⟩))
theorem wx (x y : RR) (hxn : x.n.l.length ≤ 10000000) (hxd : x.d.l.length ≤ 10000000) (hyn : y.n.l.length ≤ 10000000) (hyd : y.d.l.length ≤ 10000000) : Ret Tryz.prog .shared 100 [.agg (eR x),.agg (eR y)] (.agg (eR (ofQ (x.val - y.val)))) := by
 have hneg := nw y (by omega) (by omega)
 have hl := u6 hyn hyd
 have ha := n6 x (ofQ (-y.val)) (by omega) (by omega) (by omega) (by omega)
 rw [ofQ_val,← Rat.sub_eq_add_neg] at ha
 generalize ofQ (-y.val) = Y at *
 generalize ofQ (x.val - y.val) = X at *
 refine Ret.of_pwp layOk mixed Go.Proofs.Tryz.func100 rfl (by decide) rfl rfl ?_
 repeat refine ac rfl ?_
 refine am 4 [5,6,7,8] (by decide +kernel) ?_
 repeat refine ac rfl ?_
 refine aq rfl rfl rfl hneg rfl rfl ?_
 repeat refine ac rfl ?_
 refine aq rfl rfl rfl ha rfl rfl ?_
 repeat refine ac rfl ?_
 exact aF rfl rfl rfl
theorem js (x y : RR) {p q : Rat} {n m : Nat} [hx : Vq x p n] [hy : Vq y q m] (hn : n ≤ 10000000) (hm : m ≤ 10000000) : Ret Tryz.prog .shared 100 [.agg (eR x),.agg (eR y)] (.agg (eR (ofQ (p - q)))) := by
 have h1 := hx.sz
 have h2 := hy.sz
 have := wx x y (by omega) (by omega) (by omega) (by omega)
 rwa [hx.val,hy.val] at this
theorem uX (x y : RR) (hxn : x.n.l.length ≤ 20000000) (hxd : x.d.l.length ≤ 20000000) (hyn : y.n.l.length ≤ 20000000) (hyd : y.d.l.length ≤ 20000000) : Ret Tryz.prog .shared 105 [.agg (eR x),.agg (eR y)] (.agg (eR (ofQ (x.val * y.val)))) := by
 have hbx := cn x (by omega)
 have hby := cn y (by omega)
 have hdx := dI hxd
 have hdy := dI hyd
 have l1 := bL x.n y.n
 have l3 := bL (dn x) (dn y)
 have m1 := dU x.n y.n (by omega) (by omega)
 have m3 := dU (dn x) (dn y) (by omega) (by omega)
 have m5 := co (bz (x.n.val * y.n.val)) (bz ((dn x).val * (dn y).val)) (by omega) (by omega) (p5 (Int.mul_ne_zero (gS x) (gS y)))
 rw [bu,bu,← nH,← RR.val_dn,← RR.val_dn] at m5
 generalize bz (x.n.val * y.n.val) = W1 at *
 generalize bz ((dn x).val * (dn y).val) = W3 at *
 generalize dn x = A at *
 generalize dn y = B at *
 generalize ofQ (x.val * y.val) = X at *
 refine Ret.of_pwp layOk mixed Go.Proofs.Tryz.func105 rfl (by decide) rfl rfl ?_
 repeat refine ac rfl ?_
 refine am 11 [5,6,7,8,9,10,11,12,13,14,15] (by decide +kernel) ?_
 repeat refine ac rfl ?_
 refine aq rfl rfl rfl m1 rfl rfl ?_
 repeat refine ac rfl ?_
 refine aq rfl rfl rfl hbx rfl rfl ?_
 repeat refine ac rfl ?_
 refine aq rfl rfl rfl hby rfl rfl ?_
 repeat refine ac rfl ?_
 refine aq rfl rfl rfl m3 rfl rfl ?_
 repeat refine ac rfl ?_
 refine aq rfl rfl rfl m5 rfl rfl ?_
 repeat refine ac rfl ?_
 exact aF rfl rfl rfl
theorem dV (x y : RR) {p q : Rat} {n m : Nat} [hx : Vq x p n] [hy : Vq y q m] (hn : n ≤ 20000000) (hm : m ≤ 20000000) : Ret Tryz.prog .shared 105 [.agg (eR x),.agg (eR y)] (.agg (eR (ofQ (p * q)))) := by
 have h1 := hx.sz
 have h2 := hy.sz
 have := uX x y (by omega) (by omega) (by omega) (by omega)
 rwa [hx.val,hy.val] at this
theorem sU (x y : RR) (hxn : x.n.l.length ≤ 20000000) (hxd : x.d.l.length ≤ 20000000) (hyn : y.n.l.length ≤ 20000000) (hyd : y.d.l.length ≤ 20000000) (h0 : y.val ≠ 0) : Ret Tryz.prog .shared 175 [.agg (eR x),.agg (eR y)] (.agg (eR (ofQ (x.val / y.val)))) := by
 have hbx := cn x (by omega)
 have hby := cn y (by omega)
 have hdx := dI hxd
 have hdy := dI hyd
 have hy0 : y.n.val ≠ 0 := by rw [Ne,RI.val_zero,← RR.zero_iff];exact h0
 have l1 := bL x.n (dn y)
 have l3 := bL (dn x) y.n
 have m1 := dU x.n (dn y) (by omega) (by omega)
 have m3 := dU (dn x) y.n (by omega) (by omega)
 have m5 := co (bz (x.n.val * (dn y).val)) (bz ((dn x).val * y.n.val)) (by omega) (by omega) (p5 (Int.mul_ne_zero (gS x) hy0))
 rw [bu,bu,← nG,← RR.val_dn,← RR.val_dn] at m5
 generalize bz (x.n.val * (dn y).val) = W1 at *
 generalize bz ((dn x).val * y.n.val) = W3 at *
 generalize dn x = A at *
 generalize dn y = B at *
 generalize ofQ (x.val / y.val) = X at *
 refine Ret.of_pwp layOk mixed Go.Proofs.Tryz.func175 rfl (by decide) rfl rfl ?_
 repeat refine ac rfl ?_
 refine am 11 [5,6,7,8,9,10,11,12,13,14,15] (by decide +kernel) ?_
 repeat refine ac rfl ?_
 refine aq rfl rfl rfl hby rfl rfl ?_
 repeat refine ac rfl ?_
 refine aq rfl rfl rfl m1 rfl rfl ?_
 repeat refine ac rfl ?_
 refine aq rfl rfl rfl hbx rfl rfl ?_
 repeat refine ac rfl ?_
 refine aq rfl rfl rfl m3 rfl rfl ?_
 repeat refine ac rfl ?_
 refine aq rfl rfl rfl m5 rfl rfl ?_
 repeat refine ac rfl ?_
 exact aF rfl rfl rfl
theorem Av (x y : RR) {p q : Rat} {n m : Nat} [hx : Vq x p n] [hy : Vq y q m] (hn : n ≤ 20000000) (hm : m ≤ 20000000) (h0 : q ≠ 0) : Ret Tryz.prog .shared 175 [.agg (eR x),.agg (eR y)] (.agg (eR (ofQ (p / q)))) := by
 have h1 := hx.sz
 have h2 := hy.sz
 have := sU x y (by omega) (by omega) (by omega) (by omega) (by rw [hy.val];exact h0)
 rwa [hx.val,hy.val] at this
theorem lu (x : RR) (hn : x.n.l.length ≤ 20000000) (hd : x.d.l.length ≤ 20000000) : Ret Tryz.prog .shared 135 [.agg (eR x)] (I (sgn x.val)) := by
 have hb := cn x (by omega)
 have h1 := iV x.n (by omega)
 have h2 := iV (dn x) (by have := dI hd;omega)
 rw [rE]
 have hw : IntKind.i64.wrap (i6 x.n.val * i6 (dn x).val) = i6 x.n.val * i6 (dn x).val := by
  refine wrap_i64 ?_ ?_ <;> (unfold i6;split <;> split <;> (try split) <;> (try split) <;> omega)
 generalize i6 x.n.val = s1 at *
 generalize i6 (dn x).val = s2 at *
 generalize dn x = D at *
 refine Ret.of_pwp layOk mixed Go.Proofs.Tryz.func135 rfl (by decide) rfl rfl ?_
 repeat refine ac rfl ?_
 refine am 8 [3,4,5,6,7,8,9,2] (by decide +kernel) ?_
 repeat refine ac rfl ?_
 refine aT rfl rfl rfl h1 rfl rfl rfl ?_
 repeat refine ac rfl ?_
 refine aq rfl rfl rfl hb rfl rfl ?_
 repeat refine ac rfl ?_
 refine aT rfl rfl rfl h2 rfl rfl rfl ?_
 repeat refine ac rfl ?_
 rw [hw]
 exact aO rfl rfl rfl
theorem yN (x : RR) {p : Rat} {n : Nat} [hx : Vq x p n] (hn : n ≤ 20000000) : Ret Tryz.prog .shared 135 [.agg (eR x)] (I (sgn p)) := by
 have h1 := hx.sz
 have := lu x (by omega) (by omega)
 rwa [hx.val] at this
theorem qY (x : RR) {p : Rat} {n : Nat} [hx : Vq x p n] (hn : n ≤ 20000000) : Ret Tryz.prog .shared 158 [.agg (eR x)] (.bool (decide (p = 0))) := by
 have h1 := hx.sz
 have := gW x (by omega)
 rwa [hx.val] at this
theorem nf (x y : RR) {p q : Rat} {n m : Nat} [hx : Vq x p n] [hy : Vq y q m] (hn : n ≤ 8000000) (hm : m ≤ 8000000) : Ret Tryz.prog .shared 65 [.agg (eR x),.agg (eR y)] (I (sgn (p - q))) := by
 have h1 := hx.sz
 have h2 := hy.sz
 have hs := js x y (by omega) (by omega)
 have hh : hq (p - q) (n + 1 + (m + 1) + 1) := (HQ.sub (h1 := hx.hq) (h2 := hy.hq)).ok
 have hl := c7 hh
 have hg := lu (ofQ (p - q)) (by omega) (by omega)
 rw [ofQ_val] at hg
 generalize ofQ (p - q) = X at *
 generalize sgn (p - q) = g at *
 refine Ret.of_pwp layOk mixed Go.Proofs.Tryz.func65 rfl (by decide) rfl rfl ?_
 repeat refine ac rfl ?_
 refine aq rfl rfl rfl hs rfl rfl ?_
 repeat refine ac rfl ?_
 refine aT rfl rfl rfl hg rfl rfl rfl ?_
 repeat refine ac rfl ?_
 exact aO rfl rfl rfl
theorem vE (x y : RR) {p q : Rat} {n m : Nat} [hx : Vq x p n] [hy : Vq y q m] (hn : n ≤ 20000000) (hm : m ≤ 20000000) : Ret Tryz.prog .shared 132 [.agg (eR x),.agg (eR y)] (if q = 0 then .tup [.agg (eR RR.zero),I 9] else .tup [.agg (eR (ofQ (p / q))),I 0]) := by
 have hz := qY y hm
 by_cases h0 : q = 0
 ·rw [if_pos h0]
  rw [decide_eq_true h0] at hz
  refine Ret.of_pwp layOk mixed Go.Proofs.Tryz.func132 rfl (by decide) rfl rfl ?_
  repeat refine ac rfl ?_
  refine aT rfl rfl rfl hz rfl rfl rfl ?_
  ((repeat ((fail_if_success (with_reducible refine ic ?_));refine cF rfl ?_));refine aB (Ghost.nilcell (k := 1007) (k0 := 4) (i := 0) (j := 1) 180 1 0 rfl rfl rfl rfl (row := [.bool false,.nil,.bool false,.nil]) rfl rfl rfl) ?_;refine aB (Ghost.nilcell (k := 1021) (k0 := 4) (i := 0) (j := 3) 180 1 0 rfl rfl rfl rfl (row := [.bool false,_,.bool false,.nil]) rfl rfl rfl) ?_)
  repeat refine ac rfl ?_
  exact aF rfl rfl rfl
 ·rw [if_neg h0]
  rw [decide_eq_false h0] at hz
  have ho := Av x y hn hm h0
  generalize ofQ (p / q) = X at *
  refine Ret.of_pwp layOk mixed Go.Proofs.Tryz.func132 rfl (by decide) rfl rfl ?_
  repeat refine ac rfl ?_
  refine aT rfl rfl rfl hz rfl rfl rfl ?_
  repeat refine ac rfl ?_
  refine aq rfl rfl rfl ho rfl rfl ?_
  repeat refine ac rfl ?_
  exact aF rfl rfl rfl
theorem kW {z : Int} (h : z.natAbs < 18446744073709551616) : (bz z).l.length ≤ 4 := by
 rw [jJ]
 refine bE ?_
 have : (65536 : Nat) ^ 4 = 18446744073709551616 := by decide
 omega
theorem jQ (z : Int) : IntKind.u64.wrap z = z % 18446744073709551616 := by
 have e : (2 : Int) ^ 64 = 18446744073709551616 := by decide
 simp only [IntKind.wrap,IntKind.bits,IntKind.signed,Bool.false_and,Bool.false_eq_true,if_false,e]
theorem pD {z : Int} (h0 : -9223372036854775808 ≤ z) (h1 : z < 0) : IntKind.u64.wrap (0 - (IntKind.u64.wrap z)) = ((z.natAbs : Nat) : Int) := by
 rw [jQ,jQ]
 omega
set_option maxRecDepth 20000 in
theorem u_ (z : Int) (h0 : -9223372036854775808 ≤ z) (h1 : z ≤ 9223372036854775807) : Ret Tryz.prog .shared 153 [I z] (.agg (eI (bz z))) := by
 have hn := jI z.natAbs (by omega)
 have hl := kW (z := z) (by omega)
 rw [jJ] at hl
 have hs := cK (decide (z < 0)) (ao z.natAbs) (by omega)
 rw [aD] at hs
 have e : cT (decide (z < 0)) z.natAbs = z := by
  by_cases h : z < 0
  ·rw [decide_eq_true h,cT,if_pos rfl];omega
  ·rw [decide_eq_false h,cT,if_neg (by decide)];omega
 rw [e] at hs
 generalize bz z = X at *
 by_cases hz : z < 0
 ·have hw := pD h0 hz
  rw [decide_eq_true hz] at hs
  generalize ao z.natAbs = A at *
  refine Ret.of_pwp layOk mixed Go.Proofs.Tryz.func153 rfl (by decide) rfl rfl ?_
  repeat refine ac rfl ?_
  refine ae rfl ?_ ?_<;>intro h
  ·clear h
   repeat refine ac rfl ?_
   rw [hw]
   refine aq rfl rfl rfl hn rfl rfl ?_
   repeat refine ac rfl ?_
   refine aq rfl rfl rfl hs rfl rfl ?_
   repeat refine ac rfl ?_
   exact aF rfl rfl rfl
  ·exact absurd hz (of_decide_eq_false h)
 ·have hw : IntKind.u64.wrap z = ((z.natAbs : Nat) : Int) := by
   rw [wrap_u64 (by omega) (by omega)];omega
  rw [decide_eq_false hz] at hs
  generalize ao z.natAbs = A at *
  refine Ret.of_pwp layOk mixed Go.Proofs.Tryz.func153 rfl (by decide) rfl rfl ?_
  repeat refine ac rfl ?_
  refine ae rfl ?_ ?_<;>intro h
  ·exact absurd (of_decide_eq_true h) hz
  ·clear h
   repeat refine ac rfl ?_
   rw [hw]
   refine aq rfl rfl rfl hn rfl rfl ?_
   repeat refine ac rfl ?_
   refine aq rfl rfl rfl hs rfl rfl ?_
   repeat refine ac rfl ?_
   exact aF rfl rfl rfl
theorem mS (a : RI) (ha : a.l.length ≤ 90000000) : Ret Tryz.prog .shared 152 [.agg (eI a)] (.agg (eR (ofQ (a.val : Rat)))) := by
 have hf := co a ⟨false,[1]⟩ ha (by decide) (by decide)
 rw [show (RI.mk false [1]).val = 1 by rfl] at hf
 rw [show ((a.val : Rat) / ((1 : Int) : Rat)) = (a.val : Rat) by grind] at hf
 generalize ofQ (a.val : Rat) = X at *
 refine Ret.of_pwp layOk mixed Go.Proofs.Tryz.func152 rfl (by decide) rfl rfl ?_
 repeat refine ac rfl ?_
 refine bx rfl rfl (da rfl rfl rfl rfl rfl rfl rfl rfl rfl rfl (by repeat' constructor) rfl) ?_
 repeat refine ac rfl ?_
 refine aq rfl rfl rfl hf rfl rfl ?_
 repeat refine ac rfl ?_
 exact aF rfl rfl rfl
theorem dl (z : Int) (h0 : -9223372036854775808 ≤ z) (h1 : z ≤ 9223372036854775807) : Ret Tryz.prog .shared 161 [I z] (.agg (eR (ofQ (z : Rat)))) := by
 have ho := u_ z h0 h1
 have hw := mS (bz z) (by have := kW (z := z) (by omega);omega)
 rw [bu] at hw
 generalize ofQ (z : Rat) = X at *
 generalize bz z = Z at *
 refine Ret.of_pwp layOk mixed Go.Proofs.Tryz.func161 rfl (by decide) rfl rfl ?_
 repeat refine ac rfl ?_
 refine aq rfl rfl rfl ho rfl rfl ?_
 repeat refine ac rfl ?_
 refine aq rfl rfl rfl hw rfl rfl ?_
 repeat refine ac rfl ?_
 exact aF rfl rfl rfl
def b_ (l : List UInt16) (i : Nat) : Nat := (l.getD i 0).toNat
theorem cJ (l : List UInt16) (i : Nat) : b_ l i < 65536 := aQ _
theorem um {l : List UInt16} {i : Nat} (h : l.length ≤ i) : b_ l i = 0 := by
 rw [b_,List.getD_eq_getElem?_getD,List.getElem?_eq_none h];rfl
theorem mn (l : List UInt16) (i : Nat) : nv (l.take (i + 1)) = nv (l.take i) + 65536 ^ i * b_ l i := by
 rcases Nat.lt_or_ge i l.length with h | h
 ·exact cf (bH h)
 ·rw [um h,List.take_of_length_le h,List.take_of_length_le (by omega)];omega
structure RPlus (A B : List UInt16) (q : Nat × List UInt16 × Nat) : Prop where
 l : q.2.1.length = q.1
 c : q.2.2 ≤ 1
 k : q.1 ≤ A.length + B.length + 1
 v : nv q.2.1 + 65536 ^ q.1 * q.2.2 = nv (A.take q.1) + nv (B.take q.1)
theorem qe {A B : List UInt16} {k : Nat} {L : List UInt16} {c : Nat} (h : RPlus A B (k,L,c)) (hk : k < A.length ∨ k < B.length ∨ 0 < c) :
  RPlus A B (k + 1,L ++ [UInt16.ofNat (b_ A k + b_ B k + c)],(b_ A k + b_ B k + c) / 65536) ∧ k < A.length + B.length + 1 := by
 obtain ⟨h1,h2,h3,h4⟩ := h
 simp only at h1 h2 h3 h4
 have hx := cJ A k
 have hy := cJ B k
 have hkk : k < A.length + B.length + 1 := by
  rcases Nat.lt_or_ge k (A.length + B.length + 1) with g | g
  ·exact g
  ·exfalso
   have hc : 0 < c := by omega
   have e1 := bB A
   have e2 := bB B
   rw [List.take_of_length_le (l := A) (by omega),List.take_of_length_le (l := B) (by omega)] at h4
   have p1 : 65536 ^ A.length * 65536 ≤ 65536 ^ k := by rw [← Nat.pow_succ];exact Nat.pow_le_pow_right (by decide) (by omega)
   have p2 : 65536 ^ B.length * 65536 ≤ 65536 ^ k := by rw [← Nat.pow_succ];exact Nat.pow_le_pow_right (by decide) (by omega)
   have p3 : 65536 ^ k * 1 ≤ 65536 ^ k * c := Nat.mul_le_mul_left _ hc
   omega
 refine ⟨⟨by simp [h1],by simp only;omega,by simp only;omega,?_⟩,hkk⟩
 simp only
 rw [j0,mn A,mn B,h1,aL,Nat.pow_succ]
 have e : (b_ A k + b_ B k + c) % 65536 + 65536 * ((b_ A k + b_ B k + c) / 65536) = b_ A k + b_ B k + c := Nat.mod_add_div _ _
 generalize (b_ A k + b_ B k + c) % 65536 = m at *
 generalize (b_ A k + b_ B k + c) / 65536 = d at *
 generalize 65536 ^ k = W at *
 have : W * (m + 65536 * d) = W * (b_ A k + b_ B k + c) := by rw [e]
 simp only [Nat.mul_add] at this
 rw [Nat.mul_assoc]
 omega
theorem s9 {A B : List UInt16} {k : Nat} {L : List UInt16} {c : Nat} (h : RPlus A B (k,L,c)) (hk : ¬ (k < A.length ∨ k < B.length ∨ 0 < c)) : nv L = nv A + nv B := by
 obtain ⟨h1,h2,h3,h4⟩ := h
 simp only at h1 h2 h3 h4
 rw [List.take_of_length_le (l := A) (by omega),List.take_of_length_le (l := B) (by omega),show c = 0 by omega] at h4
 omega
structure RMin (A B : List UInt16) (q : Nat × List UInt16 × Nat) : Prop where
 l : q.2.1.length = q.1
 c : q.2.2 ≤ 1
 k : q.1 ≤ A.length
 v : nv q.2.1 + nv (B.take q.1) = nv (A.take q.1) + 65536 ^ q.1 * q.2.2
def tJ (x y c : Nat) : Nat := if x < y + c then x + 65536 - y - c else x - y - c
def x6 (x y c : Nat) : Nat := if x < y + c then 1 else 0
theorem yK {x y c : Nat} (hx : x < 65536) (hy : y < 65536) (hc : c ≤ 1) : tJ x y c + y + c = x + 65536 * x6 x y c ∧ tJ x y c < 65536 ∧ x6 x y c ≤ 1 := by
 unfold tJ x6;split <;> omega
theorem sZ {A B : List UInt16} {k : Nat} {L : List UInt16} {c : Nat} (h : RMin A B (k,L,c)) (hk : k < A.length) :
  RMin A B (k + 1,L ++ [UInt16.ofNat (tJ (b_ A k) (b_ B k) c)],x6 (b_ A k) (b_ B k) c) := by
 obtain ⟨h1,h2,h3,h4⟩ := h
 simp only at h1 h2 h3 h4
 obtain ⟨e,e2,e3⟩ := yK (cJ A k) (cJ B k) h2
 refine ⟨by simp [h1],e3,hk,?_⟩
 simp only
 rw [j0,mn A,mn B,h1,aL,Nat.mod_eq_of_lt e2,Nat.pow_succ]
 generalize tJ (b_ A k) (b_ B k) c = m at *
 generalize x6 (b_ A k) (b_ B k) c = d at *
 generalize 65536 ^ k = W at *
 have : W * (m + b_ B k + c) = W * (b_ A k + 65536 * d) := by rw [e]
 simp only [Nat.mul_add] at this
 rw [Nat.mul_assoc]
 omega
theorem vQ {A B L : List UInt16} {c : Nat} (h : RMin A B (A.length,L,c)) (hle : nv B ≤ nv A) : nv L = nv A - nv B := by
 obtain ⟨h1,h2,h3,h4⟩ := h
 simp only at h1 h2 h3 h4
 rw [List.take_length] at h4
 have e1 := bB L
 rw [h1] at e1
 have e2 := p4 B A.length
 have e3 : nv (B.take A.length) = nv B ∧ c = 0 := by
  have e4 : 65536 ^ A.length ≠ 0 := Nat.ne_of_gt (ib _)
  have hc : c = 0 := by
   rcases Nat.eq_zero_or_pos c with g | g
   ·exact g
   ·have : c = 1 := by omega
    subst this
    have := dp B A.length
    omega
  refine ⟨?_,hc⟩
  subst hc
  rcases Nat.lt_or_ge A.length B.length with g | g
  ·have e5 := bU B A.length (by omega)
   have e6 := bB A
   rcases Nat.eq_zero_or_pos (nv (B.drop A.length)) with g2 | g2
   ·rw [g2] at e5;omega
   ·have : 65536 ^ A.length * 1 ≤ 65536 ^ A.length * nv (B.drop A.length) := Nat.mul_le_mul_left _ g2
    omega
  ·rw [List.take_of_length_le g]
 rw [e3.1,e3.2] at h4
 omega
structure RTimO (A B : List UInt16) (q : Nat × List UInt16) : Prop where
 i : q.1 ≤ A.length
 l : q.2.length = A.length + B.length + 1
 v : nv q.2 = nv (A.take q.1) * nv B
structure RTimI (A B : List UInt16) (i : Nat) (q : Nat × List UInt16 × Nat) : Prop where
 k : q.1 ≤ B.length + 1
 l : q.2.1.length = A.length + B.length + 1
 c : q.2.2 < 65536
 v : nv q.2.1 + 65536 ^ (i + q.1) * q.2.2 = nv (A.take i) * nv B + 65536 ^ i * (b_ A i * nv (B.take q.1))
theorem qg {A B : List UInt16} {i : Nat} {R : List UInt16} (h : RTimO A B (i,R)) : RTimI A B i (0,R,0) := ⟨Nat.zero_le _,h.l,Nat.zero_lt_succ _,by
 have := h.v
 simp only at this ⊢
 rw [List.take_zero,nv];omega⟩
theorem zF {A B : List UInt16} {i k : Nat} {R : List UInt16} {c : Nat} (h : RTimI A B i (k,R,c)) (hk : k < B.length ∨ 0 < c) : k ≤ B.length := by
 rcases hk with hk | hk
 ·omega
 ·obtain ⟨h1,h2,h3,h4⟩ := h
  simp only at h1 h2 h3 h4
  rcases Nat.lt_or_ge B.length k with g | g
  ·exfalso
   rw [List.take_of_length_le (l := B) (by omega)] at h4
   have e1 := dp A i
   have e2 := cJ A i
   have e3 := bB B
   have e4 : nv (A.take i) * nv B + 65536 ^ i * (b_ A i * nv B) = (nv (A.take i) + 65536 ^ i * b_ A i) * nv B := by rw [Nat.add_mul,Nat.mul_assoc]
   have e5 : nv (A.take i) + 65536 ^ i * b_ A i < 65536 ^ (i + 1) := by
    have : 65536 ^ i * b_ A i ≤ 65536 ^ i * 65535 := Nat.mul_le_mul_left _ (by omega)
    rw [Nat.pow_succ];omega
   have e6 : (nv (A.take i) + 65536 ^ i * b_ A i) * nv B < 65536 ^ (i + 1 + B.length) := dE e5 e3
   have e7 : 65536 ^ (i + 1 + B.length) ≤ 65536 ^ (i + k) := Nat.pow_le_pow_right (by decide) (by omega)
   have e8 : 65536 ^ (i + k) * 1 ≤ 65536 ^ (i + k) * c := Nat.mul_le_mul_left _ hk
   omega
  ·exact g
theorem th {A B : List UInt16} {i k : Nat} {R : List UInt16} {c : Nat} {r : UInt16} (h : RTimI A B i (k,R,c)) (hkB : k ≤ B.length) (hr : R[i + k]? = some r) :
  RTimI A B i (k + 1,R.set (i + k) (UInt16.ofNat (r.toNat + b_ A i * b_ B k + c)),(r.toNat + b_ A i * b_ B k + c) / 65536) := by
 obtain ⟨h1,h2,h3,h4⟩ := h
 simp only at h1 h2 h3 h4
 have hx := cJ A i
 have hyl := cJ B k
 have hrl := aQ r
 have hm := oT hx hyl
 refine ⟨by simp only;omega,by simp [h2],by simp only;omega,?_⟩
 simp only
 have hs := u4 hr (UInt16.ofNat (r.toNat + b_ A i * b_ B k + c))
 rw [aL] at hs
 rw [mn B,show i + (k + 1) = (i + k) + 1 by omega,Nat.pow_succ]
 have e := Nat.mod_add_div (r.toNat + b_ A i * b_ B k + c) 65536
 generalize (r.toNat + b_ A i * b_ B k + c) % 65536 = m at *
 generalize (r.toNat + b_ A i * b_ B k + c) / 65536 = d at *
 have e2 : 65536 ^ i * (b_ A i * (nv (B.take k) + 65536 ^ k * b_ B k)) = 65536 ^ i * (b_ A i * nv (B.take k)) + 65536 ^ (i + k) * (b_ A i * b_ B k) := by
  rw [Nat.mul_add,Nat.mul_add,Nat.pow_add]
  congr 1
  simp only [Nat.mul_assoc,Nat.mul_left_comm,Nat.mul_comm]
 rw [e2]
 generalize 65536 ^ (i + k) = W at *
 have e3 : W * (m + 65536 * d) = W * (r.toNat + b_ A i * b_ B k + c) := by rw [e]
 simp only [Nat.mul_add] at e3
 rw [Nat.mul_assoc]
 omega
theorem tg {A B : List UInt16} {i k : Nat} {R : List UInt16} {c : Nat} (h : RTimI A B i (k,R,c)) (hi : i < A.length) (hk : ¬ (k < B.length ∨ 0 < c)) : RTimO A B (i + 1,R) := by
 obtain ⟨h1,h2,h3,h4⟩ := h
 simp only at h1 h2 h3 h4
 rw [List.take_of_length_le (l := B) (by omega),show c = 0 by omega] at h4
 refine ⟨hi,h2,?_⟩
 simp only
 rw [mn A,Nat.add_mul,Nat.mul_assoc]
 omega
structure ROvr (A B : List UInt16) (q : Nat × List UInt16 × Nat) : Prop where
 i : q.1 ≤ A.length
 l : q.2.1.length = A.length
 u : nv (q.2.1.drop q.1) = nv (A.drop q.1) / nv B
 r : q.2.2 = nv (A.drop q.1) % nv B
theorem qd {A B : List UInt16} : ROvr A B (A.length,List.replicate A.length 0,0) :=
 ⟨Nat.le_refl _,by simp,by simp [nv],by simp [nv]⟩
theorem s8 {A B : List UInt16} {i : Nat} {Q : List UInt16} {r : Nat} {x : UInt16} (hb : 0 < nv B) (h : ROvr A B (i + 1,Q,r)) (hx : A[i]? = some x) :
  (x.toNat + 65536 * r) / nv B < 65536 ∧ ROvr A B (i,Q.set i (UInt16.ofNat ((x.toNat + 65536 * r) / nv B)),(x.toNat + 65536 * r) % nv B) := by
 obtain ⟨h1,h2,h3,h4⟩ := h
 simp only at h1 h2 h3 h4
 have hxl := aQ x
 have hrb : r < nv B := by rw [h4];exact Nat.mod_lt _ hb
 have hq : (x.toNat + 65536 * r) / nv B < 65536 := by
  refine Nat.div_lt_of_lt_mul ?_
  have : 65536 * (r + 1) ≤ 65536 * nv B := Nat.mul_le_mul_left _ hrb
  rw [Nat.mul_comm (nv B)]
  omega
 refine ⟨hq,by simp only;omega,by simp [h2],?_,?_⟩
 ·simp only
  have hget : (Q.set i (UInt16.ofNat ((x.toNat + 65536 * r) / nv B)))[i]? = some (UInt16.ofNat ((x.toNat + 65536 * r) / nv B)) := List.getElem?_set_self (by omega)
  rw [c9 hget,c9 hx,aL,Nat.mod_eq_of_lt hq]
  have e2 : (Q.set i (UInt16.ofNat ((x.toNat + 65536 * r) / nv B))).drop (i + 1) = Q.drop (i + 1) := by
   apply List.ext_getElem?;intro j
   rw [List.getElem?_drop,List.getElem?_drop,List.getElem?_set_ne (by omega)]
  rw [e2,h3]
  generalize nv (A.drop (i + 1)) = D at *
  have e3 := Nat.mod_add_div D (nv B)
  rw [← h4] at e3
  have e4 : x.toNat + 65536 * D = (x.toNat + 65536 * r) + nv B * (65536 * (D / nv B)) := by
   have e5 : nv B * (65536 * (D / nv B)) = 65536 * (nv B * (D / nv B)) := by rw [Nat.mul_left_comm]
   rw [e5];omega
  rw [e4,Nat.add_mul_div_left _ _ hb]
 ·simp only
  rw [c9 hx]
  generalize nv (A.drop (i + 1)) = D at *
  have e3 := Nat.mod_add_div D (nv B)
  rw [← h4] at e3
  have e4 : x.toNat + 65536 * D = (x.toNat + 65536 * r) + nv B * (65536 * (D / nv B)) := by
   have e5 : nv B * (65536 * (D / nv B)) = 65536 * (nv B * (D / nv B)) := by rw [Nat.mul_left_comm]
   rw [e5];omega
  rw [e4,Nat.add_mul_mod_self_left]
theorem vS {A B Q : List UInt16} {r : Nat} (h : ROvr A B (0,Q,r)) : nv Q = nv A / nv B ∧ r = nv A % nv B := by
 have h1 := h.u
 have h2 := h.r
 simp only [List.drop_zero] at h1 h2
 exact ⟨h1,h2⟩
def eD (x : UInt16) : List PV := [I x.toNat]
theorem eL (a : List UInt16) (i : Nat) (ha : a.length ≤ 1000000000) (hi : i ≤ 4000000000) : Ret Tryz.prog .shared 178 [.sl (a.map eD),I i] (I (b_ a i)) := by
 have hal : (a.map eD).length = a.length := by simp
 by_cases hlt : i < a.length
 ·have hx := bH (l := a) (i := i) hlt
  rw [b_]
  generalize a.getD i 0 = x at *
  refine Ret.of_pwp layOk mixed Go.Proofs.Tryz.func178 rfl (by decide) rfl rfl ?_
  repeat refine ac rfl ?_
  refine ae rfl ?_ ?_<;>intro h
  ·clear h
   repeat refine ac rfl ?_
   refine bm rfl rfl rfl rfl rfl rfl rfl hx rfl ?_
   repeat refine ac rfl ?_
   exact aO rfl rfl rfl
  ·have := of_decide_eq_false h;omega
 ·rw [um (by omega)]
  refine Ret.of_pwp layOk mixed Go.Proofs.Tryz.func178 rfl (by decide) rfl rfl ?_
  repeat refine ac rfl ?_
  refine ae rfl ?_ ?_<;>intro h
  ·have := of_decide_eq_true h;omega
  ·repeat refine ac rfl ?_
   exact aO rfl rfl rfl
theorem dN (l : List UInt16) (hl : l.length ≤ 1000000000) : Ret Tryz.prog .shared 177 [.sl (l.map eD)] (.sl ((aG l).map eD)) := by
 have hml : (l.map eD).length = l.length := by simp
 refine Ret.of_pwp layOk mixed Go.Proofs.Tryz.func177 rfl (by decide) rfl rfl ?_
 repeat refine ac rfl ?_
 refine ax (fun k => k ≤ l.length ∧ nv (l.take k) = nv l) (fun k => [(0,.sl (l.map eD)),(3,I (k : Nat))]) (fun _ => []) (fun k => k) l.length ⟨Nat.le_refl _,by rw [List.take_length]⟩ ⟨rfl,by rw [← hml];rfl,trivial⟩ ?_
 rintro k s ⟨hk,hv⟩
 have hkl : (l.take k).length = k := by rw [List.length_take];omega
 have fin : (∀ j,k = j + 1 → ∀ x,l[j]? = some x → x.toNat ≠ 0) → l.take k = aG l := by
  intro h0
  rw [aG,← hv]
  refine (dR fun y hy => ?_).symm
  rw [List.getLast?_eq_getElem?,hkl] at hy
  have hk0 : 0 < k := by
   rcases Nat.eq_zero_or_pos k with h | h
   ·subst h;rw [List.take_zero] at hy;cases hy
   ·exact h
  rw [List.getElem?_take,if_pos (by omega)] at hy
  exact h0 (k - 1) (by omega) y hy
 have ending : (l.take k).map eD = (l.map eD).take k := by rw [List.map_take]
 repeat refine ac rfl ?_
 refine cb rfl rfl rfl ?_ ?_<;>intro h
 ·have hk0 : 0 < k := by have := of_decide_eq_true h;omega
  clear h
  obtain ⟨j,rfl⟩ : ∃ j,k = j + 1 := ⟨k - 1,by omega⟩
  obtain ⟨x,hx⟩ := aM (show j < l.length by omega)
  have hw1 : IntKind.i64.wrap (((j + 1 : Nat) : Int) - 1) = (j : Nat) := by rw [wrap_i64 (by omega) (by omega)];omega
  repeat refine ac rfl ?_
  rw [hw1]
  refine bm rfl rfl rfl rfl rfl rfl rfl hx rfl ?_
  repeat refine ac rfl ?_
  refine ae rfl ?_ ?_<;>intro h
  ·have hx0 : x.toNat = 0 := by have := of_decide_eq_true h;omega
   clear h
   repeat refine ac rfl ?_
   refine ⟨j,⟨by omega,?_⟩,by omega,rfl,congrArg I hw1,trivial⟩
   rw [← hv,cf hx,hx0];omega
  ·have hx0 : x.toNat ≠ 0 := by have := of_decide_eq_false h;omega
   clear h
   have ht := fin fun j' hj' x' hx' => by
    obtain rfl : j = j' := by omega
    rw [hx] at hx';cases hx';exact hx0
   rw [ht] at ending
   have htl : ((aG l).map eD).length = j + 1 := by rw [List.length_map,← ht,hkl]
   repeat refine ac rfl ?_
   refine ay (bb 0 rfl rfl rfl rfl rfl rfl rfl rfl rfl rfl rfl (by repeat' constructor) rfl ?_)
   repeat refine ac rfl ?_
   refine bx rfl rfl (nE (n := ((j + 1 : Nat) : Int)) rfl rfl rfl rfl rfl (by omega) (by omega) (fun _ => rfl)) ?_
   rw [Int.toNat_natCast,List.map_take,← ending]
   repeat refine ac rfl ?_
   refine ay (bC 1 rfl rfl rfl rfl rfl rfl rfl rfl rfl rfl rfl (by repeat' constructor) (by intro row hr;obtain ⟨p,_,rfl⟩ := List.mem_map.1 hr;rfl) rfl rfl (by simp;have := bq l;omega) (by simp;have := bq l;omega) ?_)
   repeat refine ac rfl ?_
   exact aF rfl rfl rfl
 ·have hk0 : k = 0 := by have := of_decide_eq_false h;omega
  subst hk0
  clear h
  have ht := fin fun j' hj' => by omega
  rw [ht] at ending
  repeat refine ac rfl ?_
  refine ay (bb 0 rfl rfl rfl rfl rfl rfl rfl rfl rfl rfl rfl (by repeat' constructor) rfl ?_)
  repeat refine ac rfl ?_
  refine bx rfl rfl (nE (n := ((0 : Nat) : Int)) rfl rfl rfl rfl rfl (by omega) (by omega) (fun _ => rfl)) ?_
  rw [Int.toNat_natCast,List.map_take,← ending]
  repeat refine ac rfl ?_
  refine ay (bC 1 rfl rfl rfl rfl rfl rfl rfl rfl rfl rfl rfl (by repeat' constructor) (by intro row hr;obtain ⟨p,_,rfl⟩ := List.mem_map.1 hr;rfl) rfl rfl (by simp;have := bq l;omega) (by simp;have := bq l;omega) ?_)
  repeat refine ac rfl ?_
  exact aF rfl rfl rfl
theorem cM {α : Type} {l : List α} {k : Nat} {x : α} (h : l[k]? = some x) : l.take (k + 1) = l.take k ++ [x] := by
 rw [List.take_add_one,h];rfl
set_option maxRecDepth 20000 in
theorem dx (l : List UInt16) (hl : l.length ≤ 900000000) : Ret Tryz.prog .shared 141 [.sl (l.map eU)] (.sl ((aG l).map eD)) := by
 have hml : (l.map eU).length = l.length := by simp
 have ht := dN l (by omega)
 refine Ret.of_pwp layOk mixed Go.Proofs.Tryz.func141 rfl (by decide) rfl rfl ?_
 ((repeat (first | refine aR ?_ | refine bV ?_ | refine bR ?_ | refine bQ ?_));refine aY ?_)
 refine gy rfl trivial ?_
 ((repeat (first | refine aR ?_ | refine bV ?_ | refine bR ?_ | refine bQ ?_));refine aY ?_)
 (first | refine ay (eE 3 1 0 rfl rfl ?_) | refine ay (ez 3 1 0 rfl rfl ?_))
 repeat refine ac rfl ?_
 refine ax (fun k => k ≤ l.length) (fun k => [(0,.sl (l.map eU)),(3,.als 3 (k + 1) 0 ((l.take k).map eD).length),(4,I (k : Nat))]) (fun k => [(3,k + 1,⟨3,1,(l.take k).map eD,0⟩)]) (fun k => l.length - k) 0 (Nat.zero_le _) ⟨rfl,rfl,rfl,rfl,trivial⟩ ?_
 intro k s hk
 repeat refine ac rfl ?_
 refine ae rfl ?_ ?_<;>intro h
 ·have hlt : k < l.length := by have := of_decide_eq_true h;omega
  clear h
  obtain ⟨x,hx⟩ := aM hlt
  have hxl := aQ x
  have hkl : (l.take k).length = k := by rw [List.length_take];omega
  have hw := f7 k
  have hcx : IntKind.i64.wrap (x.toNat : Int) = (x.toNat : Int) := wrap_i64 (by omega) (by omega)
  repeat refine ac rfl ?_
  refine bm rfl rfl rfl rfl rfl rfl rfl hx rfl ?_
  repeat refine ac rfl ?_
  rw [hcx]
  refine ay (bb 0 rfl rfl rfl rfl rfl rfl rfl rfl rfl rfl rfl (by repeat' constructor) rfl ?_)
  repeat refine ac rfl ?_
  refine ay (bC 0 rfl rfl rfl rfl rfl rfl rfl rfl rfl rfl rfl (by repeat' constructor) (by intro row hr;first | (simp at hr;subst hr;rfl) | simp at hr) rfl rfl (by simp;omega) (by simp;omega) ?_)
  repeat refine ac rfl ?_
  refine ⟨k + 1,hlt,by omega,rfl,?_,congrArg I hw,?_,trivial⟩
  ·rw [cM hx,List.map_append];rfl
  ·rw [cM hx,List.map_append];rfl
 ·have hge : k = l.length := by have := of_decide_eq_false h;omega
  subst hge
  clear h
  rw [List.take_length]
  ((repeat ((fail_if_success (with_reducible refine aP 6 ?_));refine cF rfl ?_));refine aE 1 ?_)
  refine ac rfl ?_
  refine aR ?_
  refine aV rfl (cy (Ghost.takeF (enc := eD) (t := 19) (l) rfl rfl (rfl) rfl (fun _ => rfl)) ?_)
  (refine iM (c_ rfl (ht) rfl ?_ rfl) ?_;·repeat' constructor)
  refine aJ ?_
  repeat refine ac rfl ?_
  exact eM rfl rfl rfl trivial rfl
theorem iQ (a b : List UInt16) (ha : a.length ≤ 1000000000) (hb : b.length ≤ 1000000000) : Ret Tryz.prog .shared 147 [.sl (a.map eD),.sl (b.map eD)] (I (gv a b)) := by
 have hal : (a.map eD).length = a.length := by simp
 have hbl : (b.map eD).length = b.length := by simp
 by_cases he : a.length = b.length
 ·rw [gv,if_pos he]
  have hw0 : IntKind.i64.wrap (((((a.map eD).length : Nat) : Int)) - 1) = (a.length : Int) - 1 := by rw [hal,wrap_i64 (by omega) (by omega)]
  refine Ret.of_pwp layOk mixed Go.Proofs.Tryz.func147 rfl (by decide) rfl rfl ?_
  repeat refine ac rfl ?_
  refine ae rfl ?_ ?_<;>intro h
  ·simp at h;omega
  clear h
  repeat refine ac rfl ?_
  rw [hw0]
  refine ax (fun k : Nat => k ≤ a.length ∧ iw a b k = iw a b a.length) (fun k => [(0,.sl (a.map eD)),(1,.sl (b.map eD)),(5,I ((k : Int) - 1))]) (fun _ => []) (fun k => k) a.length ⟨Nat.le_refl _,rfl⟩ ⟨rfl,rfl,rfl,trivial⟩ ?_
  rintro k s ⟨hk,hc⟩
  rw [← hc]
  repeat refine ac rfl ?_
  refine ae rfl ?_ ?_<;>intro h
  ·have hk0 : 0 < k := by have := of_decide_eq_true h;omega
   clear h
   obtain ⟨j,rfl⟩ : ∃ j,k = j + 1 := ⟨k - 1,by omega⟩
   have e1 : (((j + 1 : Nat) : Int) - 1) = (j : Nat) := by omega
   rw [e1]
   have hx := bH (l := a) (i := j) (by omega)
   have hy := bH (l := b) (i := j) (by omega)
   have hc1 : iw a b (j + 1) = if (a.getD j 0).toNat = (b.getD j 0).toNat then iw a b j else ((a.getD j 0).toNat : Int) - (b.getD j 0).toNat := rfl
   have hxl := aQ (a.getD j 0)
   have hyl := aQ (b.getD j 0)
   generalize a.getD j 0 = x at *
   generalize b.getD j 0 = y at *
   repeat refine ac rfl ?_
   refine am 9 [23,24,25,26,27,28,29,30,31] (by decide +kernel) ?_
   repeat refine ac rfl ?_
   refine bm rfl rfl rfl rfl rfl rfl rfl hx rfl ?_
   repeat refine ac rfl ?_
   refine bm rfl rfl rfl rfl rfl rfl rfl hy rfl ?_
   repeat refine ac rfl ?_
   refine ae rfl ?_ ?_<;>intro h
   ·have hne : ¬ x.toNat = y.toNat := by simp at h;intro he;apply h;omega
    clear h
    rw [if_neg hne] at hc1
    rw [hc1]
    repeat refine ac rfl ?_
    refine am 10 [32,33,34,35,36,37,38,39,40,4] (by decide +kernel) ?_
    repeat refine ac rfl ?_
    refine bm rfl rfl rfl rfl rfl rfl rfl hx rfl ?_
    repeat refine ac rfl ?_
    refine bm rfl rfl rfl rfl rfl rfl rfl hy rfl ?_
    repeat refine ac rfl ?_
    rw [wrap_i64 (n := (x.toNat : Int) - (y.toNat : Int)) (by omega) (by omega)]
    repeat refine ac rfl ?_
    exact aO rfl rfl rfl
   ·have hne : x.toNat = y.toNat := by simp at h;omega
    clear h
    rw [if_pos hne] at hc1
    repeat refine ac rfl ?_
    refine ⟨j,⟨by omega,by rw [← hc1,hc]⟩,by omega,rfl,rfl,?_,trivial⟩
    exact congrArg I (wrap_i64 (by omega) (by omega))
  ·have hk0 : k = 0 := by have := of_decide_eq_false h;omega
   subst hk0
   clear h
   repeat refine ac rfl ?_
   exact aO rfl rfl rfl
 ·rw [gv,if_neg he]
  refine Ret.of_pwp layOk mixed Go.Proofs.Tryz.func147 rfl (by decide) rfl rfl ?_
  repeat refine ac rfl ?_
  refine ae rfl ?_ ?_<;>intro h
  ·repeat refine ac rfl ?_
   rw [hal,hbl,wrap_i64 (by omega) (by omega)]
   exact aO rfl rfl rfl
  ·simp at h;omega
theorem j6 (a : Nat) : Int.tmod (a : Int) 65536 = ((UInt16.ofNat a).toNat : Int) := by
 rw [aL,Int.tmod_eq_emod_of_nonneg (by omega)];omega
theorem j5 (a : Nat) : Int.tdiv (a : Int) 65536 = ((a / 65536 : Nat) : Int) := by
 rw [Int.tdiv_eq_ediv_of_nonneg (by omega)];omega
theorem f8 (k : Nat) (l : List UInt16) (a : UInt16) : PV.als k (l.length + 1 + 1) 0 (l.map eD ++ [eD a]).length = PV.als k ((l ++ [a]).length + 1) 0 ((l ++ [a]).map eD).length := by simp
theorem eJ (T sz kd : Nat) (l : List UInt16) (a : UInt16) : (l.length + 1 + 1,some (Cont.mk T sz (l.map eD ++ [eD a]) kd)) = ((l ++ [a]).length + 1,some (Cont.mk T sz ((l ++ [a]).map eD) kd)) := by simp
set_option maxRecDepth 20000 in
theorem s_ (a b : List UInt16) (ha : a.length ≤ 400000000) (hb : b.length ≤ 400000000) : Ret Tryz.prog .shared 146 [.sl (a.map eD),.sl (b.map eD)] (.sl ((ao (nv a + nv b)).map eD)) := by
 have hal : (a.map eD).length = a.length := by simp
 have hbl : (b.map eD).length = b.length := by simp
 refine Ret.of_pwp layOk mixed Go.Proofs.Tryz.func146 rfl (by decide) rfl rfl ?_
 ((repeat (first | refine aR ?_ | refine bV ?_ | refine bR ?_ | refine bQ ?_));refine aY ?_)
 refine gy rfl trivial ?_
 ((repeat (first | refine aR ?_ | refine bV ?_ | refine bR ?_ | refine bQ ?_));refine aY ?_)
 (first | refine ay (eE 3 1 0 rfl rfl ?_) | refine ay (ez 3 1 0 rfl rfl ?_))
 repeat refine ac rfl ?_
 refine ax (RPlus a b) (fun q => [(0,.sl (a.map eD)),(1,.sl (b.map eD)),(5,.als 5 (q.2.1.length + 1) 0 (q.2.1.map eD).length),(6,I (q.2.2 : Nat)),(7,I (q.1 : Nat))]) (fun q => [(5,q.2.1.length + 1,⟨3,1,q.2.1.map eD,0⟩)]) (fun q => a.length + b.length + 1 - q.1) (0,[],0)
  ⟨rfl,by decide,by simp only;omega,by simp [nv]⟩ ⟨rfl,rfl,rfl,rfl,rfl,rfl,trivial⟩ ?_
 rintro ⟨k,L,c⟩ s hI
 have hc := hI.c
 have hLl := hI.l
 have hkk := hI.k
 simp only at hc hLl hkk
 dsimp only
 have hstep := fun h => qe hI h
 have hend := fun h => s9 hI h
 have e1 := eL a k (by omega) (by omega)
 have e2 := eL b k (by omega) (by omega)
 have hxl := cJ a k
 have hyl := cJ b k
 have hw := f7 k
 have s1 : IntKind.i64.wrap ((b_ a k : Int) + (b_ b k : Int)) = ((b_ a k + b_ b k : Nat) : Int) := by rw [wrap_i64 (by omega) (by omega)];omega
 have s2 : IntKind.i64.wrap (((b_ a k + b_ b k : Nat) : Int) + (c : Int)) = ((b_ a k + b_ b k + c : Nat) : Int) := by rw [wrap_i64 (by omega) (by omega)];omega
 generalize b_ a k = x at *
 generalize b_ b k = y at *
 have hr : Int.tmod ((x + y + c : Nat) : Int) 65536 = ((UInt16.ofNat (x + y + c)).toNat : Int) := j6 _
 have hq : IntKind.i64.wrap (Int.tdiv ((x + y + c : Nat) : Int) 65536) = (((x + y + c) / 65536 : Nat) : Int) := by rw [j5,wrap_i64] <;> omega
 repeat refine ac rfl ?_
 refine cb rfl rfl rfl ?_ ?_<;>intro h
 ·have hyes : k < a.length ∨ k < b.length ∨ 0 < c := .inl (by have := of_decide_eq_true h;rw [hal] at this;omega)
  clear h
  have hst := (hstep hyes).1
  have hlt := (hstep hyes).2
  repeat refine ac rfl ?_
  refine aT rfl rfl rfl e1 rfl rfl rfl ?_
  repeat refine ac rfl ?_
  refine aT rfl rfl rfl e2 rfl rfl rfl ?_
  repeat refine ac rfl ?_
  rw [s1]
  repeat refine ac rfl ?_
  rw [s2]
  repeat refine ac rfl ?_
  refine bx rfl rfl (QOp.v rfl (show ¬ (65536 : Int) = 0 by decide)) ?_
  rw [hr]
  refine ay (bb 0 rfl rfl rfl rfl rfl rfl rfl rfl rfl rfl rfl (by repeat' constructor) rfl ?_)
  repeat refine ac rfl ?_
  refine ay (bC 0 rfl rfl rfl rfl rfl rfl rfl rfl rfl rfl rfl (by repeat' constructor) (by intro row hr;first | (simp at hr;subst hr;rfl) | simp at hr) rfl rfl (by simp;omega) (by simp;omega) ?_)
  repeat refine ac rfl ?_
  refine bx rfl rfl (QOp.v rfl (show ¬ (65536 : Int) = 0 by decide)) ?_
  rw [hq]
  repeat refine ac rfl ?_
  refine ⟨(k + 1,L ++ [UInt16.ofNat (x + y + c)],(x + y + c) / 65536),hst,by simp only;omega,rfl,rfl,?_,rfl,congrArg I hw,?_,trivial⟩
  ·exact f8 5 L (UInt16.ofNat (x + y + c))
  ·exact eJ 3 1 0 L (UInt16.ofNat (x + y + c))
 ·have h1 : ¬ k < a.length := by have := of_decide_eq_false h;rw [hal] at this;omega
  clear h
  repeat refine ac rfl ?_
  refine cb rfl rfl rfl ?_ ?_<;>intro h
  ·have hyes : k < a.length ∨ k < b.length ∨ 0 < c := .inr (.inl (by have := of_decide_eq_true h;rw [hbl] at this;omega))
   clear h
   have hst := (hstep hyes).1
   have hlt := (hstep hyes).2
   repeat refine ac rfl ?_
   refine aT rfl rfl rfl e1 rfl rfl rfl ?_
   repeat refine ac rfl ?_
   refine aT rfl rfl rfl e2 rfl rfl rfl ?_
   repeat refine ac rfl ?_
   rw [s1]
   repeat refine ac rfl ?_
   rw [s2]
   repeat refine ac rfl ?_
   refine bx rfl rfl (QOp.v rfl (show ¬ (65536 : Int) = 0 by decide)) ?_
   rw [hr]
   refine ay (bb 0 rfl rfl rfl rfl rfl rfl rfl rfl rfl rfl rfl (by repeat' constructor) rfl ?_)
   repeat refine ac rfl ?_
   refine ay (bC 0 rfl rfl rfl rfl rfl rfl rfl rfl rfl rfl rfl (by repeat' constructor) (by intro row hr;first | (simp at hr;subst hr;rfl) | simp at hr) rfl rfl (by simp;omega) (by simp;omega) ?_)
   repeat refine ac rfl ?_
   refine bx rfl rfl (QOp.v rfl (show ¬ (65536 : Int) = 0 by decide)) ?_
   rw [hq]
   repeat refine ac rfl ?_
   refine ⟨(k + 1,L ++ [UInt16.ofNat (x + y + c)],(x + y + c) / 65536),hst,by simp only;omega,rfl,rfl,?_,rfl,congrArg I hw,?_,trivial⟩
   ·exact f8 5 L (UInt16.ofNat (x + y + c))
   ·exact eJ 3 1 0 L (UInt16.ofNat (x + y + c))
  ·have h2 : ¬ k < b.length := by have := of_decide_eq_false h;rw [hbl] at this;omega
   clear h
   repeat refine ac rfl ?_
   refine ae rfl ?_ ?_<;>intro h
   ·have hyes : k < a.length ∨ k < b.length ∨ 0 < c := .inr (.inr (by have := of_decide_eq_true h;omega))
    clear h
    have hst := (hstep hyes).1
    have hlt := (hstep hyes).2
    repeat refine ac rfl ?_
    refine aT rfl rfl rfl e1 rfl rfl rfl ?_
    repeat refine ac rfl ?_
    refine aT rfl rfl rfl e2 rfl rfl rfl ?_
    repeat refine ac rfl ?_
    rw [s1]
    repeat refine ac rfl ?_
    rw [s2]
    repeat refine ac rfl ?_
    refine bx rfl rfl (QOp.v rfl (show ¬ (65536 : Int) = 0 by decide)) ?_
    rw [hr]
    refine ay (bb 0 rfl rfl rfl rfl rfl rfl rfl rfl rfl rfl rfl (by repeat' constructor) rfl ?_)
    repeat refine ac rfl ?_
    refine ay (bC 0 rfl rfl rfl rfl rfl rfl rfl rfl rfl rfl rfl (by repeat' constructor) (by intro row hr;first | (simp at hr;subst hr;rfl) | simp at hr) rfl rfl (by simp;omega) (by simp;omega) ?_)
    repeat refine ac rfl ?_
    refine bx rfl rfl (QOp.v rfl (show ¬ (65536 : Int) = 0 by decide)) ?_
    rw [hq]
    repeat refine ac rfl ?_
    refine ⟨(k + 1,L ++ [UInt16.ofNat (x + y + c)],(x + y + c) / 65536),hst,by simp only;omega,rfl,rfl,?_,rfl,congrArg I hw,?_,trivial⟩
    ·exact f8 5 L (UInt16.ofNat (x + y + c))
    ·exact eJ 3 1 0 L (UInt16.ofNat (x + y + c))
   ·have h3 : ¬ 0 < c := by have := of_decide_eq_false h;omega
    clear h
    have hfin := hend (by omega)
    have ht := dN L (by omega)
    rw [aG,hfin] at ht
    ((repeat ((fail_if_success (with_reducible refine aP 9 ?_));refine cF rfl ?_));refine aE 1 ?_)
    refine ac rfl ?_
    refine aR ?_
    refine aV rfl (cy (Ghost.takeF (enc := eD) (t := 41) (L) rfl rfl (rfl) rfl (fun _ => rfl)) ?_)
    (refine iM (c_ rfl (ht) rfl ?_ rfl) ?_;·repeat' constructor)
    refine aJ ?_
    repeat refine ac rfl ?_
    exact eM rfl rfl rfl trivial rfl
set_option maxRecDepth 20000 in
theorem il (a b : List UInt16) (ha : a.length ≤ 900000000) (hb : b.length ≤ 900000000) (hle : nv b ≤ nv a) : Ret Tryz.prog .shared 148 [.sl (a.map eD),.sl (b.map eD)] (.sl ((ao (nv a - nv b)).map eD)) := by
 have hal : (a.map eD).length = a.length := by simp
 refine Ret.of_pwp layOk mixed Go.Proofs.Tryz.func148 rfl (by decide) rfl rfl ?_
 ((repeat (first | refine aR ?_ | refine bV ?_ | refine bR ?_ | refine bQ ?_));refine aY ?_)
 refine gy rfl trivial ?_
 ((repeat (first | refine aR ?_ | refine bV ?_ | refine bR ?_ | refine bQ ?_));refine aY ?_)
 (first | refine ay (eE 3 1 0 rfl rfl ?_) | refine ay (ez 3 1 0 rfl rfl ?_))
 repeat refine ac rfl ?_
 refine ax (RMin a b) (fun q => [(0,.sl (a.map eD)),(1,.sl (b.map eD)),(5,.als 5 (q.2.1.length + 1) 0 (q.2.1.map eD).length),(6,I (q.2.2 : Nat)),(7,I (q.1 : Nat))]) (fun q => [(5,q.2.1.length + 1,⟨3,1,q.2.1.map eD,0⟩)]) (fun q => a.length - q.1) (0,[],0)
  ⟨rfl,by decide,Nat.zero_le _,by simp [nv]⟩ ⟨rfl,rfl,rfl,rfl,rfl,rfl,trivial⟩ ?_
 rintro ⟨k,L,c⟩ s hI
 have hc := hI.c
 have hLl := hI.l
 have hkk := hI.k
 simp only at hc hLl hkk
 dsimp only
 repeat refine ac rfl ?_
 refine ae rfl ?_ ?_<;>intro h
 ·have hlt : k < a.length := by have := of_decide_eq_true h;omega
  clear h
  have hst := sZ hI hlt
  have hx := bH (l := a) (i := k) hlt
  have e2 := eL b k (by omega) (by omega)
  have hxl := cJ a k
  have hyl := cJ b k
  have hw := f7 k
  have hX : (a.getD k 0).toNat = b_ a k := rfl
  generalize b_ b k = y at *
  generalize b_ a k = X at *
  generalize a.getD k 0 = x at *
  subst hX
  have s1 : IntKind.i64.wrap ((x.toNat : Int) - (y : Int)) = (x.toNat : Int) - (y : Int) := by rw [wrap_i64 (by omega) (by omega)]
  have s2 : IntKind.i64.wrap ((x.toNat : Int) - (y : Int) - (c : Int)) = (x.toNat : Int) - (y : Int) - (c : Int) := by rw [wrap_i64 (by omega) (by omega)]
  have hlen : (L.map eD).length = L.length := by simp
  have hsd := yK hxl hyl hc
  have hrow : ∀ m : Nat,m < 65536 → eD (UInt16.ofNat m) = [I (m : Nat)] := fun m hm => by rw [eD,aL,Nat.mod_eq_of_lt hm]
  by_cases hn : x.toNat < y + c
  ·have hd : (x.toNat : Int) - (y : Int) - (c : Int) + 65536 = ((tJ x.toNat y c : Nat) : Int) := by rw [tJ,if_pos hn];omega
   have s3 : IntKind.i64.wrap ((x.toNat : Int) - (y : Int) - (c : Int) + 65536) = ((tJ x.toNat y c : Nat) : Int) := by rw [hd,wrap_i64 (by omega) (by omega)]
   have hcc : x6 x.toNat y c = 1 := by rw [x6,if_pos hn]
   rw [hcc] at hst
   have hrw := hrow _ hsd.2.1
   generalize tJ x.toNat y c = D at *
   repeat refine ac rfl ?_
   refine am 11 [15,16,17,18,19,20,21,22,23,24,8] (by decide +kernel) ?_
   repeat refine ac rfl ?_
   refine bm rfl rfl rfl rfl rfl rfl rfl hx rfl ?_
   repeat refine ac rfl ?_
   refine aT rfl rfl rfl e2 rfl rfl rfl ?_
   repeat refine ac rfl ?_
   rw [s1]
   repeat refine ac rfl ?_
   rw [s2]
   repeat refine ac rfl ?_
   refine ae rfl ?_ ?_<;>intro h
   ·clear h
    repeat refine ac rfl ?_
    rw [s3]
    repeat refine ac rfl ?_
    refine ay (bb 0 rfl rfl rfl rfl rfl rfl rfl rfl rfl rfl rfl (by repeat' constructor) rfl ?_)
    repeat refine ac rfl ?_
    refine ay (bC 0 rfl rfl rfl rfl rfl rfl rfl rfl rfl rfl rfl (by repeat' constructor) (by intro row hr;first | (simp at hr;subst hr;rfl) | simp at hr) rfl rfl (by simp;omega) (by simp;omega) ?_)
    repeat refine ac rfl ?_
    refine ⟨(k + 1,L ++ [UInt16.ofNat D],1),hst,by simp only;omega,rfl,rfl,?_,rfl,congrArg I hw,?_,trivial⟩
    ·have := f8 5 L (UInt16.ofNat D);rw [hrw] at this;exact this
    ·have := eJ 3 1 0 L (UInt16.ofNat D);rw [hrw] at this;exact this
   ·have := of_decide_eq_false h;omega
  ·have hd : (x.toNat : Int) - (y : Int) - (c : Int) = ((tJ x.toNat y c : Nat) : Int) := by rw [tJ,if_neg hn];omega
   rw [hd] at s2
   have hcc : x6 x.toNat y c = 0 := by rw [x6,if_neg hn]
   rw [hcc] at hst
   have hrw := hrow _ hsd.2.1
   generalize tJ x.toNat y c = D at *
   repeat refine ac rfl ?_
   refine am 11 [15,16,17,18,19,20,21,22,23,24,8] (by decide +kernel) ?_
   repeat refine ac rfl ?_
   refine bm rfl rfl rfl rfl rfl rfl rfl hx rfl ?_
   repeat refine ac rfl ?_
   refine aT rfl rfl rfl e2 rfl rfl rfl ?_
   repeat refine ac rfl ?_
   rw [s1]
   repeat refine ac rfl ?_
   rw [hd,s2]
   repeat refine ac rfl ?_
   refine ay (bb 0 rfl rfl rfl rfl rfl rfl rfl rfl rfl rfl rfl (by repeat' constructor) rfl ?_)
   repeat refine ac rfl ?_
   refine ay (bC 0 rfl rfl rfl rfl rfl rfl rfl rfl rfl rfl rfl (by repeat' constructor) (by intro row hr;first | (simp at hr;subst hr;rfl) | simp at hr) rfl rfl (by simp;omega) (by simp;omega) ?_)
   repeat refine ac rfl ?_
   refine ⟨(k + 1,L ++ [UInt16.ofNat D],0),hst,by simp only;omega,rfl,rfl,?_,rfl,congrArg I hw,?_,trivial⟩
   ·have := f8 5 L (UInt16.ofNat D);rw [hrw] at this;exact this
   ·have := eJ 3 1 0 L (UInt16.ofNat D);rw [hrw] at this;exact this
 ·have hge : k = a.length := by have := of_decide_eq_false h;omega
  subst hge
  clear h
  have hfin := vQ hI hle
  have ht := dN L (by omega)
  rw [aG,hfin] at ht
  ((repeat ((fail_if_success (with_reducible refine aP 12 ?_));refine cF rfl ?_));refine aE 1 ?_)
  refine ac rfl ?_
  refine aR ?_
  refine aV rfl (cy (Ghost.takeF (enc := eD) (t := 33) (L) rfl rfl (rfl) rfl (fun _ => rfl)) ?_)
  (refine iM (c_ rfl (ht) rfl ?_ rfl) ?_;·repeat' constructor)
  refine aJ ?_
  repeat refine ac rfl ?_
  exact eM rfl rfl rfl trivial rfl
theorem vN (n : Nat) : List.replicate n [PV.int .i64 0] = (List.replicate n (0 : UInt16)).map eD := by rw [List.map_replicate];rfl
theorem n_ (k g i : Nat) (R : List UInt16) (y : UInt16) : PV.als k g 0 (((R.map eD).set i (eD y))).length = PV.als k g 0 ((R.set i y).map eD).length := by simp
theorem l9 (g T sz kd i : Nat) (R : List UInt16) (y : UInt16) : (g,some (Cont.mk T sz ((R.map eD).set i (eD y)) kd)) = (g,some (Cont.mk T sz ((R.set i y).map eD) kd)) := by rw [List.map_set]
set_option maxRecDepth 20000 in
theorem im (a b : List UInt16) (ha : a.length ≤ 400000000) (hb : b.length ≤ 400000000) : Ret Tryz.prog .shared 149 [.sl (a.map eD),.sl (b.map eD)] (.sl ((ao (nv a * nv b)).map eD)) := by
 have hal : (a.map eD).length = a.length := by simp
 have hbl : (b.map eD).length = b.length := by simp
 have hw0 : IntKind.i64.wrap ((((a.map eD).length : Nat) : Int) + (((b.map eD).length : Nat) : Int)) = ((a.length + b.length : Nat) : Int) := by rw [hal,hbl,wrap_i64 (by omega) (by omega)];omega
 have hw1 : IntKind.i64.wrap (((a.length + b.length : Nat) : Int) + 1) = ((a.length + b.length + 1 : Nat) : Int) := by rw [wrap_i64 (by omega) (by omega)];omega
 refine Ret.of_pwp layOk mixed Go.Proofs.Tryz.func149 rfl (by decide) rfl rfl ?_
 repeat refine ac rfl ?_
 rw [hw0]
 repeat refine ac rfl ?_
 rw [hw1]
 refine ay (fi rfl rfl rfl rfl rfl rfl rfl rfl (by omega) (by show (8 : Int) * _ ≤ _;omega) (by omega) ?_)
 rw [Int.toNat_natCast,vN]
 repeat refine ac rfl ?_
 refine ax (RTimO a b) (fun q => [(0,.sl (a.map eD)),(1,.sl (b.map eD)),(5,.als 16 1 0 (q.2.map eD).length),(6,I q.1)])
  (fun q => [(16,1,⟨3,1,q.2.map eD,0⟩)]) (fun q => a.length - q.1) (0,List.replicate (a.length + b.length + 1) 0) ⟨Nat.zero_le _,by simp,by simp [nv];exact nz _⟩ ⟨rfl,rfl,rfl,rfl,rfl,trivial⟩ ?_
 rintro ⟨i,R⟩ s1 hO
 have hi := hO.i
 have hRl := hO.l
 simp only at hi hRl
 dsimp only
 repeat refine ac rfl ?_
 refine ae rfl ?_ ?_<;>intro h
 ·have hlt : i < a.length := by have := of_decide_eq_true h;omega
  clear h
  repeat refine ac rfl ?_
  refine ax (RTimI a b i) (fun q => [(0,.sl (a.map eD)),(1,.sl (b.map eD)),(5,.als 16 1 0 (q.2.1.map eD).length),(6,I i),(7,I (q.2.2 : Nat)),(8,I (q.1 : Nat))])
   (fun q => [(16,1,⟨3,1,q.2.1.map eD,0⟩)]) (fun q => b.length + 1 - q.1) (0,R,0) (qg hO) ⟨rfl,rfl,rfl,rfl,rfl,rfl,rfl,trivial⟩ ?_
  rintro ⟨k,Q,c⟩ s2 hI
  have hk := hI.k
  have hc := hI.c
  have hQl := hI.l
  simp only at hk hc hQl
  dsimp only
  have hQm : (Q.map eD).length = Q.length := by simp
  have body : ∀ _ : k < b.length ∨ 0 < c,True := fun _ => trivial
  clear body
  have hkB := fun h => zF hI h
  have hstep := fun h => th (r := Q.getD (i + k) 0) hI h
  have hnext := fun h => tg hI hlt h
  repeat refine ac rfl ?_
  refine cb rfl rfl rfl ?_ ?_<;>intro h
  ·have hyes : k < b.length ∨ 0 < c := .inl (by have := of_decide_eq_true h;omega)
   clear h
   have hkb := hkB hyes
   have hr := bH (l := Q) (i := i + k) (by omega)
   have hst := hstep hkb hr
   have hx := bH (l := a) (i := i) hlt
   have hX : (a.getD i 0).toNat = b_ a i := rfl
   have hxl := cJ a i
   have hyl := cJ b k
   have e2 := eL b k (by omega) (by omega)
   have hm := oT hxl hyl
   have hrl := aQ (Q.getD (i + k) 0)
   have hr2 : (Q.map eD)[i + k]? = some (eD (Q.getD (i + k) 0)) := by rw [List.getElem?_map,hr];rfl
   have ei : IntKind.i64.wrap ((i : Int) + (k : Int)) = ((i + k : Nat) : Int) := by rw [wrap_i64 (by omega) (by omega)];omega
   generalize Q.getD (i + k) 0 = r at *
   generalize b_ b k = y at *
   generalize b_ a i = X at *
   generalize a.getD i 0 = x at *
   subst hX
   have s1 : IntKind.i64.wrap ((x.toNat : Int) * (y : Int)) = ((x.toNat * y : Nat) : Int) := by rw [← Int.natCast_mul,wrap_i64 (by omega) (by omega)]
   have s2 : IntKind.i64.wrap ((r.toNat : Int) + ((x.toNat * y : Nat) : Int)) = ((r.toNat + x.toNat * y : Nat) : Int) := by rw [wrap_i64 (by omega) (by omega)];omega
   have s3 : IntKind.i64.wrap (((r.toNat + x.toNat * y : Nat) : Int) + (c : Int)) = ((r.toNat + x.toNat * y + c : Nat) : Int) := by rw [wrap_i64 (by omega) (by omega)];omega
   generalize x.toNat * y = P at *
   have hrm : Int.tmod ((r.toNat + P + c : Nat) : Int) 65536 = ((UInt16.ofNat (r.toNat + P + c)).toNat : Int) := j6 _
   have hq : IntKind.i64.wrap (Int.tdiv ((r.toNat + P + c : Nat) : Int) 65536) = (((r.toNat + P + c) / 65536 : Nat) : Int) := by rw [j5,wrap_i64] <;> omega
   generalize hsm : r.toNat + P + c = sm at *
   repeat refine ac rfl ?_
   refine am 18 [33,34,35,36,37,38,39,40,41,42,43,44,45,46,47,48,49,9] (by decide +kernel) ?_
   repeat refine ac rfl ?_
   rw [ei]
   refine bx rfl rfl (bc rfl rfl rfl rfl rfl rfl rfl (by omega) (by rw [List.length_map];omega)) ?_
   rw [Int.toNat_natCast,Nat.zero_add (i + k)]
   refine bx rfl rfl (di rfl rfl rfl hr2 rfl) ?_
   repeat refine ac rfl ?_
   refine bm rfl rfl rfl rfl rfl rfl rfl hx rfl ?_
   repeat refine ac rfl ?_
   refine aT rfl rfl rfl e2 rfl rfl rfl ?_
   repeat refine ac rfl ?_
   rw [s1]
   repeat refine ac rfl ?_
   rw [s2]
   repeat refine ac rfl ?_
   rw [s3]
   repeat refine ac rfl ?_
   rw [ei]
   repeat refine ac rfl ?_
   refine bx rfl rfl (QOp.v rfl (show ¬ (65536 : Int) = 0 by decide)) ?_
   rw [hrm]
   repeat refine ac rfl ?_
   refine bx rfl rfl (bc rfl rfl rfl rfl rfl rfl rfl (by omega) (by rw [List.length_map];omega)) ?_
   rw [Int.toNat_natCast,Nat.zero_add (i + k)]
   refine bJ (bI (kd' := 0) rfl rfl rfl hr2 rfl rfl (by repeat' constructor) rfl rfl rfl rfl ?_)
   repeat refine ac rfl ?_
   refine bx rfl rfl (QOp.v rfl (show ¬ (65536 : Int) = 0 by decide)) ?_
   rw [hq]
   repeat refine ac rfl ?_
   refine ⟨(k + 1,_,_),hst,by simp only;omega,rfl,rfl,?_,rfl,rfl,bG (by omega) (by omega),?_,trivial⟩
   ·show PV.als 16 1 0 (Q.map eD).length = _
    rw [← n_ 16 1 (i + k) Q (UInt16.ofNat sm),List.length_set]
   ·exact l9 1 3 1 0 (i + k) Q (UInt16.ofNat sm)
  ·have h1 : ¬ k < b.length := by have := of_decide_eq_false h;omega
   clear h
   repeat refine ac rfl ?_
   refine ae rfl ?_ ?_<;>intro h
   ·have hyes : k < b.length ∨ 0 < c := .inr (by have := of_decide_eq_true h;omega)
    clear h
    have hkb := hkB hyes
    have hr := bH (l := Q) (i := i + k) (by omega)
    have hst := hstep hkb hr
    have hx := bH (l := a) (i := i) hlt
    have hX : (a.getD i 0).toNat = b_ a i := rfl
    have hxl := cJ a i
    have hyl := cJ b k
    have e2 := eL b k (by omega) (by omega)
    have hm := oT hxl hyl
    have hrl := aQ (Q.getD (i + k) 0)
    have hr2 : (Q.map eD)[i + k]? = some (eD (Q.getD (i + k) 0)) := by rw [List.getElem?_map,hr];rfl
    have ei : IntKind.i64.wrap ((i : Int) + (k : Int)) = ((i + k : Nat) : Int) := by rw [wrap_i64 (by omega) (by omega)];omega
    generalize Q.getD (i + k) 0 = r at *
    generalize b_ b k = y at *
    generalize b_ a i = X at *
    generalize a.getD i 0 = x at *
    subst hX
    have s1 : IntKind.i64.wrap ((x.toNat : Int) * (y : Int)) = ((x.toNat * y : Nat) : Int) := by rw [← Int.natCast_mul,wrap_i64 (by omega) (by omega)]
    have s2 : IntKind.i64.wrap ((r.toNat : Int) + ((x.toNat * y : Nat) : Int)) = ((r.toNat + x.toNat * y : Nat) : Int) := by rw [wrap_i64 (by omega) (by omega)];omega
    have s3 : IntKind.i64.wrap (((r.toNat + x.toNat * y : Nat) : Int) + (c : Int)) = ((r.toNat + x.toNat * y + c : Nat) : Int) := by rw [wrap_i64 (by omega) (by omega)];omega
    generalize x.toNat * y = P at *
    have hrm : Int.tmod ((r.toNat + P + c : Nat) : Int) 65536 = ((UInt16.ofNat (r.toNat + P + c)).toNat : Int) := j6 _
    have hq : IntKind.i64.wrap (Int.tdiv ((r.toNat + P + c : Nat) : Int) 65536) = (((r.toNat + P + c) / 65536 : Nat) : Int) := by rw [j5,wrap_i64] <;> omega
    generalize hsm : r.toNat + P + c = sm at *
    repeat refine ac rfl ?_
    refine am 18 [33,34,35,36,37,38,39,40,41,42,43,44,45,46,47,48,49,9] (by decide +kernel) ?_
    repeat refine ac rfl ?_
    rw [ei]
    refine bx rfl rfl (bc rfl rfl rfl rfl rfl rfl rfl (by omega) (by rw [List.length_map];omega)) ?_
    rw [Int.toNat_natCast,Nat.zero_add (i + k)]
    refine bx rfl rfl (di rfl rfl rfl hr2 rfl) ?_
    repeat refine ac rfl ?_
    refine bm rfl rfl rfl rfl rfl rfl rfl hx rfl ?_
    repeat refine ac rfl ?_
    refine aT rfl rfl rfl e2 rfl rfl rfl ?_
    repeat refine ac rfl ?_
    rw [s1]
    repeat refine ac rfl ?_
    rw [s2]
    repeat refine ac rfl ?_
    rw [s3]
    repeat refine ac rfl ?_
    rw [ei]
    repeat refine ac rfl ?_
    refine bx rfl rfl (QOp.v rfl (show ¬ (65536 : Int) = 0 by decide)) ?_
    rw [hrm]
    repeat refine ac rfl ?_
    refine bx rfl rfl (bc rfl rfl rfl rfl rfl rfl rfl (by omega) (by rw [List.length_map];omega)) ?_
    rw [Int.toNat_natCast,Nat.zero_add (i + k)]
    refine bJ (bI (kd' := 0) rfl rfl rfl hr2 rfl rfl (by repeat' constructor) rfl rfl rfl rfl ?_)
    repeat refine ac rfl ?_
    refine bx rfl rfl (QOp.v rfl (show ¬ (65536 : Int) = 0 by decide)) ?_
    rw [hq]
    repeat refine ac rfl ?_
    refine ⟨(k + 1,_,_),hst,by simp only;omega,rfl,rfl,?_,rfl,rfl,bG (by omega) (by omega),?_,trivial⟩
    ·show PV.als 16 1 0 (Q.map eD).length = _
     rw [← n_ 16 1 (i + k) Q (UInt16.ofNat sm),List.length_set]
    ·exact l9 1 3 1 0 (i + k) Q (UInt16.ofNat sm)
   ·have h2 : ¬ 0 < c := by have := of_decide_eq_false h;omega
    clear h
    have hst := hnext (by omega)
    repeat refine ac rfl ?_
    refine ⟨(i + 1,Q),hst,by simp only;omega,rfl,rfl,rfl,bG (by omega) (by omega),rfl,trivial⟩
 ·have hge : i = a.length := by have := of_decide_eq_false h;omega
  subst hge
  clear h
  have hv := hO.v
  simp only [List.take_length] at hv
  have ht := dN R (by omega)
  rw [aG,hv] at ht
  ((repeat ((fail_if_success (with_reducible refine aP 12 ?_));refine cF rfl ?_));refine aE 1 ?_)
  refine ac rfl ?_
  refine aR ?_
  refine aV rfl (cy (Ghost.takeF (enc := eD) (t := 59) (R) rfl rfl (rfl) rfl (fun _ => rfl)) ?_)
  (refine iM (c_ rfl (ht) rfl ?_ rfl) ?_;·repeat' constructor)
  refine aJ ?_
  repeat refine ac rfl ?_
  exact eM rfl rfl rfl trivial rfl
theorem ve {m : Nat} (h : m < 65536) : nv [UInt16.ofNat m] = m := by simp [nv];omega
theorem uB {m : Nat} (h : m < 65536) : eD (UInt16.ofNat m) = [I (m : Nat)] := by rw [eD,aL,Nat.mod_eq_of_lt h]
theorem q_ (x : UInt16) (l : List UInt16) : nv (x :: l) = x.toNat + 65536 * nv l := rfl
theorem fg {n : Nat} {L : List UInt16} (h : n ≤ nv L) : (ao n).length ≤ L.length := bE (Nat.lt_of_le_of_lt h (bB L))
def Am (a b : List UInt16) : PV := .tup [.sl ((ao (nv a / nv b)).map eD),.sl ((ao (nv a % nv b)).map eD)]
structure RHalf (q lo hi : Nat) : Prop where
 l : lo ≤ q
 h : q ≤ hi
 m : hi ≤ 65535
set_option maxRecDepth 20000 in
theorem jn (a b : List UInt16) (ha : a.length ≤ 200000000) (hb : b.length ≤ 200000000) (hb0 : nv b ≠ 0) : Ret Tryz.prog .shared 145 [.sl (a.map eD),.sl (b.map eD)] (Am a b) := by
 have hal : (a.map eD).length = a.length := by simp
 have hbp : 0 < nv b := Nat.pos_of_ne_zero hb0
 rw [Am]
 have hw0 : IntKind.i64.wrap ((((a.map eD).length : Nat) : Int) - 1) = ((a.length : Nat) : Int) - 1 := by rw [hal,wrap_i64 (by omega) (by omega)]
 refine Ret.of_pwp layOk mixed Go.Proofs.Tryz.func145 rfl (by decide) rfl rfl ?_
 (repeat ((fail_if_success (with_reducible refine aP 2 ?_));refine cF rfl ?_))
 refine aB (Ghost.nilsl (t := 6) rfl) ?_
 repeat refine ac rfl ?_
 refine ay (fi rfl rfl rfl rfl rfl rfl rfl rfl (by omega) (by show (8 : Int) * _ ≤ _;omega) (by omega) ?_)
 rw [hal,Int.toNat_natCast,vN]
 repeat refine ac rfl ?_
 rw [hw0]
 refine ax (ROvr a b) (fun q => [(0,.sl (a.map eD)),(1,.sl (b.map eD)),(6,.sl ((ao q.2.2).map eD)),(7,.als 14 1 0 (q.2.1.map eD).length),(8,I ((q.1 : Int) - 1))])
  (fun q => [(14,1,⟨3,1,q.2.1.map eD,0⟩)]) (fun q => q.1) (a.length,List.replicate a.length 0,0) qd ⟨rfl,rfl,by rw [a_];rfl,rfl,rfl,rfl,trivial⟩ ?_
 rintro ⟨k,Q,r⟩ s1 hO
 have hk := hO.i
 have hQl := hO.l
 simp only at hk hQl
 dsimp only
 repeat refine ac rfl ?_
 refine ae rfl ?_ ?_<;>intro h
 ·have hk0 : 0 < k := by have := of_decide_eq_true h;omega
  clear h
  obtain ⟨i,rfl⟩ : ∃ i,k = i + 1 := ⟨k - 1,by omega⟩
  have e1 : (((i + 1 : Nat) : Int) - 1) = (i : Nat) := by omega
  rw [e1]
  obtain ⟨x,hx⟩ := aM (show i < a.length by omega)
  have hxl := aQ x
  obtain ⟨hq,hst⟩ := s8 hbp hO hx
  have hrb : r < nv b := by have := hO.r;simp only at this;rw [this];exact Nat.mod_lt _ hbp
  have hrl : (ao r).length ≤ 200000000 := by have := fg (L := b) (Nat.le_of_lt hrb);omega
  have htr := dN (x :: ao r) (by simp;omega)
  rw [aG,q_,aD] at htr
  have hRl : (ao (x.toNat + 65536 * r)).length ≤ 200000001 := by
   have := b5 (x :: ao r)
   rw [q_,aD] at this
   simp at this;omega
  generalize hR : x.toNat + 65536 * r = R at *
  have hRm : R % nv b = R - nv b * (R / nv b) := by have := Nat.mod_add_div R (nv b);omega
  have hQm : (Q.map eD).length = Q.length := by simp
  have hQi := bH (l := Q) (i := i) (by omega)
  have hQ2 : (Q.map eD)[i]? = some (eD (Q.getD i 0)) := by rw [List.getElem?_map,hQi];rfl
  have hrow : (x :: ao r).map eD = [eD x] ++ (ao r).map eD := rfl
  ((repeat ((fail_if_success (with_reducible refine aP 6 ?_));refine cF rfl ?_));refine aE 7 ?_)
  iterate 2 refine ac rfl ?_
  refine bm rfl rfl rfl rfl rfl rfl rfl hx rfl ?_
  refine ac rfl ?_
  refine ay (bb 0 rfl rfl rfl rfl rfl rfl rfl rfl rfl rfl rfl (by repeat' constructor) rfl ?_)
  refine ac rfl ?_
  refine ay (bC 1 rfl rfl rfl rfl rfl rfl rfl rfl rfl rfl rfl (by repeat' constructor) (by intro row hr;obtain ⟨p,_,rfl⟩ := List.mem_map.1 hr;rfl) rfl rfl (by simp;omega) (by simp;omega) ?_)
  refine aR ?_
  refine aV rfl (cy (Ghost.takeF (enc := eD) (t := 28) (x :: ao r) rfl rfl (rfl) rfl (fun _ => rfl)) ?_)
  (refine iM (c_ rfl (htr) rfl ?_ rfl) ?_;·repeat' constructor)
  refine aJ ?_
  repeat refine ac rfl ?_
  refine ax (fun q : Nat × Nat => RHalf (R / nv b) q.1 q.2) (fun q => [(0,.sl (a.map eD)),(1,.sl (b.map eD)),(6,.sl ((ao R).map eD)),(7,.als 14 1 0 (Q.map eD).length),(8,I (i : Nat)),(9,I (q.1 : Nat)),(10,I (q.2 : Nat))])
   (fun q => [(14,1,⟨3,1,Q.map eD,0⟩)]) (fun q => q.2 - q.1) (0,65535) ⟨Nat.zero_le _,by simp only;omega,Nat.le_refl _⟩ ⟨rfl,rfl,rfl,rfl,rfl,rfl,rfl,rfl,trivial⟩ ?_
  rintro ⟨lo,hi⟩ s2 ⟨hl,hh,hm⟩
  simp only at hl hh hm
  dsimp only
  repeat refine ac rfl ?_
  refine ae rfl ?_ ?_<;>intro h
  ·have hlt : lo < hi := by have := of_decide_eq_true h;omega
   clear h
   have w1 : IntKind.i64.wrap ((lo : Int) + (hi : Int)) = ((lo + hi : Nat) : Int) := by rw [wrap_i64 (by omega) (by omega)];omega
   have w2 : IntKind.i64.wrap (((lo + hi : Nat) : Int) + 1) = ((lo + hi + 1 : Nat) : Int) := by rw [wrap_i64 (by omega) (by omega)];omega
   have w3 : IntKind.i64.wrap (Int.tdiv ((lo + hi + 1 : Nat) : Int) 2) = (((lo + hi + 1) / 2 : Nat) : Int) := by rw [Int.tdiv_eq_ediv_of_nonneg (by omega),wrap_i64] <;> omega
   generalize hmm : (lo + hi + 1) / 2 = m at *
   have w4 : IntKind.i64.wrap ((m : Int) - 1) = ((m - 1 : Nat) : Int) := by rw [wrap_i64 (by omega) (by omega)];omega
   have hm1 : m < 65536 := by omega
   have ht := im b [UInt16.ofNat m] (by omega) (by simp)
   rw [ve hm1,show [UInt16.ofNat m].map eD = [eD (UInt16.ofNat m)] from rfl,uB hm1] at ht
   have hbm : (ao (nv b * m)).length ≤ 300000000 := by
    have h1 : nv b * m < 65536 ^ (b.length + 1) := by
     have := dE (bB b) (show m < 65536 ^ 1 by omega)
     exact this
    have := bE h1
    omega
   have hc := iQ (ao (nv b * m)) (ao R) (by omega) (by omega)
   have hcs := dM (a8 (nv b * m)) (a8 R)
   rw [aD,aD] at hcs
   have hle : gv (ao (nv b * m)) (ao R) ≤ 0 ↔ m ≤ R / nv b := by
    rw [Nat.le_div_iff_mul_le hbp,Nat.mul_comm m]
    omega
   generalize gv (ao (nv b * m)) (ao R) = cv at *
   generalize ao (nv b * m) = BM at *
   repeat refine ac rfl ?_
   rw [w1]
   repeat refine ac rfl ?_
   rw [w2]
   repeat refine ac rfl ?_
   refine bx rfl rfl (QOp.v rfl (show ¬ (2 : Int) = 0 by decide)) ?_
   rw [w3]
   repeat refine ac rfl ?_
   refine bx rfl rfl (da rfl rfl rfl rfl rfl rfl rfl rfl rfl rfl (by repeat' constructor) rfl) ?_
   repeat refine ac rfl ?_
   refine aq rfl rfl rfl ht rfl rfl ?_
   repeat refine ac rfl ?_
   refine aT rfl rfl rfl hc rfl rfl rfl ?_
   repeat refine ac rfl ?_
   refine ae rfl ?_ ?_<;>intro h
   ·have h1 := hle.1 (of_decide_eq_true h)
    clear h
    repeat refine ac rfl ?_
    exact ⟨(m,hi),⟨h1,hh,hm⟩,by simp only;omega,rfl,rfl,rfl,rfl,rfl,rfl,rfl,rfl,trivial⟩
   ·have h1 : ¬ m ≤ R / nv b := fun h2 => (of_decide_eq_false h) (hle.2 h2)
    clear h
    repeat refine ac rfl ?_
    exact ⟨(lo,m - 1),⟨hl,by simp only;omega,by simp only;omega⟩,by simp only;omega,rfl,rfl,rfl,rfl,rfl,rfl,congrArg I w4,rfl,trivial⟩
  ·have hge : lo = R / nv b := by have := of_decide_eq_false h;omega
   clear h
   have hw : IntKind.i64.wrap ((i : Int) - 1) = (i : Int) - 1 := wrap_i64 (by omega) (by omega)
   rw [← hge] at hst hRm
   have hlo : lo < 65536 := by omega
   have hlb : nv b * lo ≤ R := by rw [hge];exact Nat.mul_div_le R (nv b)
   have hbl : (ao (nv b * lo)).length ≤ 200000001 := by have := cB hlb;omega
   have ht := im b [UInt16.ofNat lo] (by omega) (by simp)
   rw [ve hlo,show [UInt16.ofNat lo].map eD = [eD (UInt16.ofNat lo)] from rfl,uB hlo] at ht
   have hmn := il (ao R) (ao (nv b * lo)) (by omega) (by omega) (by rw [aD,aD];exact hlb)
   rw [aD,aD,← hRm] at hmn
   have hset : (Q.map eD).set i [I (lo : Nat)] = (Q.set i (UInt16.ofNat lo)).map eD := by rw [List.map_set,uB hlo]
   have hsetl : (Q.map eD).length = ((Q.set i (UInt16.ofNat lo)).map eD).length := by simp
   generalize ao (nv b * lo) = BL at *
   repeat refine ac rfl ?_
   refine bx rfl rfl (bc rfl rfl rfl rfl rfl rfl rfl (by omega) (by rw [List.length_map];omega)) ?_
   rw [Int.toNat_natCast,Nat.zero_add i]
   refine bJ (bI (kd' := 0) rfl rfl rfl hQ2 rfl rfl (by repeat' constructor) rfl rfl rfl rfl ?_)
   repeat refine ac rfl ?_
   refine ae rfl ?_ ?_<;>intro h
   ·have h1 : 0 < lo := by have := of_decide_eq_true h;omega
    clear h
    repeat refine ac rfl ?_
    refine bx rfl rfl (da rfl rfl rfl rfl rfl rfl rfl rfl rfl rfl (by repeat' constructor) rfl) ?_
    repeat refine ac rfl ?_
    refine aq rfl rfl rfl ht rfl rfl ?_
    repeat refine ac rfl ?_
    refine aq rfl rfl rfl hmn rfl rfl ?_
    repeat refine ac rfl ?_
    refine ⟨(i,Q.set i (UInt16.ofNat lo),R % nv b),hst,by simp only;omega,rfl,rfl,rfl,?_,congrArg I hw,?_,trivial⟩
    ·exact congrArg (PV.als 14 1 0) hsetl
    ·show (1,some (Cont.mk 3 1 ((Q.map eD).set i [I (lo : Nat)]) 0)) = _
     rw [hset]
   ·have h1 : lo = 0 := by have := of_decide_eq_false h;omega
    clear h
    have hRR : R % nv b = R := by rw [hRm,h1];omega
    repeat refine ac rfl ?_
    refine ⟨(i,Q.set i (UInt16.ofNat lo),R % nv b),hst,by simp only;omega,rfl,rfl,by rw [hRR];rfl,?_,congrArg I hw,?_,trivial⟩
    ·exact congrArg (PV.als 14 1 0) hsetl
    ·show (1,some (Cont.mk 3 1 ((Q.map eD).set i [I (lo : Nat)]) 0)) = _
     rw [hset]
 ·have hk0 : k = 0 := by have := of_decide_eq_false h;omega
  subst hk0
  clear h
  obtain ⟨hv,hr⟩ := vS hO
  subst hr
  have ht := dN Q (by omega)
  rw [aG,hv] at ht
  ((repeat ((fail_if_success (with_reducible refine aP 16 ?_));refine cF rfl ?_));refine aE 1 ?_)
  refine ac rfl ?_
  refine aR ?_
  refine aV rfl (cy (Ghost.takeF (enc := eD) (t := 60) (Q) rfl rfl (rfl) rfl (fun _ => rfl)) ?_)
  (refine iM (c_ rfl (ht) rfl ?_ rfl) ?_;·repeat' constructor)
  refine aJ ?_
  repeat refine ac rfl ?_
  exact pP rfl rfl rfl rfl rfl trivial trivial rfl
set_option maxRecDepth 20000 in
theorem vP (a b : List UInt16) (ha : a.length ≤ 100000000) (hb : b.length ≤ 100000000) (hta : Trm a) (htb : Trm b) : Ret Tryz.prog .shared 144 [.sl (a.map eD),.sl (b.map eD)] (.sl ((ao (Nat.gcd (nv a) (nv b))).map eD)) := by
 generalize hg : Nat.gcd (nv a) (nv b) = g
 refine Ret.of_pwp layOk mixed Go.Proofs.Tryz.func144 rfl (by decide) rfl rfl ?_
 repeat refine ac rfl ?_
 refine ax (fun q : List UInt16 × List UInt16 => q.1.length ≤ 100000000 ∧ q.2.length ≤ 100000000 ∧ Trm q.1 ∧ Trm q.2 ∧ Nat.gcd (nv q.1) (nv q.2) = g) (fun q => [(0,.sl (q.1.map eD)),(1,.sl (q.2.map eD))]) (fun _ => []) (fun q => nv q.2) (a,b) ⟨ha,hb,hta,htb,hg⟩ ⟨rfl,rfl,trivial⟩ ?_
 rintro ⟨A,B⟩ s ⟨hA,hB,htA,htB,hG⟩
 simp only at hA hB htA htB hG
 dsimp only
 have hBm : (B.map eD).length = B.length := by simp
 repeat refine ac rfl ?_
 refine ae rfl ?_ ?_<;>intro h
 ·have hB0 : 0 < B.length := by have := of_decide_eq_true h;omega
  clear h
  have hB0v : nv B ≠ 0 := by
   match B,hB0,htB with
   |x :: l,_,h => exact j8 h
  have hd := jn A B (by omega) (by omega) hB0v
  rw [Am] at hd
  have hml := Nat.mod_lt (nv A) (Nat.pos_of_ne_zero hB0v)
  have hnext : (ao (nv A % nv B)).length ≤ 100000000 := by
   have h1 := cB (Nat.le_of_lt hml)
   have h2 := b5 B
   omega
  have hG2 : Nat.gcd (nv B) (nv (ao (nv A % nv B))) = g := by rw [aD,Nat.gcd_comm,← Nat.gcd_rec,Nat.gcd_comm];exact hG
  repeat refine ac rfl ?_
  refine aq rfl rfl rfl hd rfl rfl ?_
  repeat refine ac rfl ?_
  exact ⟨(B,ao (nv A % nv B)),⟨hB,hnext,htB,a8 _,hG2⟩,by simp only;rw [aD];exact hml,rfl,rfl,trivial⟩
 ·have hB0 : B.length = 0 := by have := of_decide_eq_false h;omega
  clear h
  have hB0v := List.length_eq_zero_iff.1 hB0
  subst hB0v
  rw [nv,Nat.gcd_zero_right] at hG
  rw [← hG,dR htA]
  repeat refine ac rfl ?_
  exact eM rfl rfl rfl trivial rfl
theorem u7 (neg : Bool) (l : List UInt16) (h : Trm l) : bz (cT neg (nv l)) = ⟨neg && decide (0 < l.length),l⟩ := by
 rw [j3]
 cases l with
 |nil => rw [nv,if_pos rfl];simp
 |cons x l =>
  rw [if_neg (j8 h),dR h]
  simp
set_option maxRecDepth 20000 in
theorem c8 (neg : Bool) (l : List UInt16) (hl : l.length ≤ 900000000) (ht : Trm l) : Ret Tryz.prog .shared 142 [.bool neg,.sl (l.map eD)] (.agg (eI (bz (cT neg (nv l))))) := by
 have hml : (l.map eD).length = l.length := by simp
 rw [u7 neg l ht]
 cases neg with
 |false =>
  rw [Bool.false_and]
  refine Ret.of_pwp layOk mixed Go.Proofs.Tryz.func142 rfl (by decide) rfl rfl ?_
  (repeat ((fail_if_success (with_reducible refine aP 2 ?_));refine cF rfl ?_))
  refine aB (Ghost.nilcell (k := 1007) (k0 := 5) (i := 0) (j := 1) 180 1 0 rfl rfl rfl rfl (row := [.bool false,.nil]) rfl rfl rfl) ?_
  repeat refine ac rfl ?_
  refine ax (fun k => k ≤ l.length) (fun k => [(1,.sl (l.map eD)),(4,.ptr 4 1 0 0),(5,.ptr 5 1 0 0),(6,I (k : Nat))])
   (fun k => [(4,1,⟨24,2,[[.bool false,.nil]],2⟩),(5,1,⟨24,2,[[.bool false,.als 1007 (k + 1) 0 ((l.take k).map eU).length]],2⟩),(1007,k + 1,⟨180,1,(l.take k).map eU,0⟩)]) (fun k => l.length - k) 0 (Nat.zero_le _) ⟨rfl,rfl,rfl,rfl,rfl,rfl,rfl,trivial⟩ ?_
  intro k s hk
  repeat refine ac rfl ?_
  refine ae rfl ?_ ?_<;>intro h
  ·have hlt : k < l.length := by have := of_decide_eq_true h;omega
   clear h
   obtain ⟨x,hx⟩ := aM hlt
   have hxl := aQ x
   have hkl : (l.take k).length = k := by rw [List.length_take];omega
   have hw := f7 k
   have hcx : IntKind.u16.wrap (x.toNat : Int) = (x.toNat : Int) := by rw [IntKind.wrap_u16];omega
   repeat refine ac rfl ?_
   refine am 8 [20,21,22,23,24,25,26,27] (by decide +kernel) ?_
   repeat refine ac rfl ?_
   refine bm rfl rfl rfl rfl rfl rfl rfl hx rfl ?_
   repeat refine ac rfl ?_
   rw [hcx]
   refine bx rfl rfl (da rfl rfl rfl rfl rfl rfl rfl rfl rfl rfl (by repeat' constructor) rfl) ?_
   repeat refine ac rfl ?_
   refine ay (bC 0 rfl rfl rfl rfl rfl rfl rfl rfl rfl rfl rfl (by repeat' constructor) (by intro row hr;first | (simp at hr;subst hr;rfl) | simp at hr) rfl rfl (by simp;omega) (by simp;omega) ?_)
   repeat refine ac rfl ?_
   refine ⟨k + 1,hlt,by omega,rfl,rfl,rfl,congrArg I hw,rfl,?_,?_,trivial⟩
   ·rw [cM hx,List.map_append];rfl
   ·rw [cM hx,List.map_append];rfl
  ·have hge : k = l.length := by have := of_decide_eq_false h;omega
   subst hge
   clear h
   rw [List.take_length]
   repeat refine ac rfl ?_
   exact aF rfl rfl rfl
 |true =>
  rw [Bool.true_and]
  have hd : decide ((0 : Int) < (((l.map eD).length : Nat) : Int)) = decide (0 < l.length) := by rw [hml,decide_eq_decide];omega
  rw [← hd]
  generalize hP : decide ((0 : Int) < (((l.map eD).length : Nat) : Int)) = P
  refine Ret.of_pwp layOk mixed Go.Proofs.Tryz.func142 rfl (by decide) rfl rfl ?_
  ((repeat (first | refine aR ?_ | refine bV ?_ | refine bR ?_ | refine bQ ?_));refine aY ?_)
  (repeat ((fail_if_success (with_reducible refine aP 2 ?_));refine cF rfl ?_))
  rw [hP]
  refine aB (Ghost.nilcell (k := 1007) (k0 := 5) (i := 0) (j := 1) 180 1 0 rfl rfl rfl rfl (row := [.bool P,.nil]) rfl rfl rfl) ?_
  repeat refine ac rfl ?_
  refine ax (fun k => k ≤ l.length) (fun k => [(1,.sl (l.map eD)),(4,.ptr 4 1 0 0),(5,.ptr 5 1 0 0),(6,I (k : Nat))])
   (fun k => [(4,1,⟨24,2,[[.bool false,.nil]],2⟩),(5,1,⟨24,2,[[.bool P,.als 1007 (k + 1) 0 ((l.take k).map eU).length]],2⟩),(1007,k + 1,⟨180,1,(l.take k).map eU,0⟩)]) (fun k => l.length - k) 0 (Nat.zero_le _) ⟨rfl,rfl,rfl,rfl,rfl,rfl,rfl,trivial⟩ ?_
  intro k s hk
  repeat refine ac rfl ?_
  refine ae rfl ?_ ?_<;>intro h
  ·have hlt : k < l.length := by have := of_decide_eq_true h;omega
   clear h
   obtain ⟨x,hx⟩ := aM hlt
   have hxl := aQ x
   have hkl : (l.take k).length = k := by rw [List.length_take];omega
   have hw := f7 k
   have hcx : IntKind.u16.wrap (x.toNat : Int) = (x.toNat : Int) := by rw [IntKind.wrap_u16];omega
   repeat refine ac rfl ?_
   refine am 8 [20,21,22,23,24,25,26,27] (by decide +kernel) ?_
   repeat refine ac rfl ?_
   refine bm rfl rfl rfl rfl rfl rfl rfl hx rfl ?_
   repeat refine ac rfl ?_
   rw [hcx]
   refine bx rfl rfl (da rfl rfl rfl rfl rfl rfl rfl rfl rfl rfl (by repeat' constructor) rfl) ?_
   repeat refine ac rfl ?_
   refine ay (bC 0 rfl rfl rfl rfl rfl rfl rfl rfl rfl rfl rfl (by repeat' constructor) (by intro row hr;first | (simp at hr;subst hr;rfl) | simp at hr) rfl rfl (by simp;omega) (by simp;omega) ?_)
   repeat refine ac rfl ?_
   refine ⟨k + 1,hlt,by omega,rfl,rfl,rfl,congrArg I hw,rfl,?_,?_,trivial⟩
   ·rw [cM hx,List.map_append];rfl
   ·rw [cM hx,List.map_append];rfl
  ·have hge : k = l.length := by have := of_decide_eq_false h;omega
   subst hge
   clear h
   rw [List.take_length]
   repeat refine ac rfl ?_
   exact aF rfl rfl rfl
theorem kQ {n : Nat} {L : List UInt16} {u : Nat} (h : ao n = L ++ ao u) (hu : 0 < u) : ao n = (L ++ [UInt16.ofNat u]) ++ ao (u / 65536) := by
 rw [h,cp (by omega),List.append_assoc];rfl
theorem kP {n : Nat} (h : n < 18446744073709551616) : (ao n).length ≤ 4 := by
 have e : (65536 : Nat) ^ 4 = 18446744073709551616 := by decide
 exact bE (by omega)
set_option maxRecDepth 20000 in
theorem xX (n : Int) (h0 : 0 ≤ n) (h1 : n ≤ 9223372036854775807) : Ret Tryz.prog .shared 143 [I n] (.agg (eI (bz n))) := by
 have hm := c8 false (ao n.toNat) (by have := kP (n := n.toNat) (by omega);omega) (a8 _)
 rw [aD,show cT false n.toNat = n by rw [cT];simp;omega] at hm
 have hcv : IntKind.u64.wrap n = ((n.toNat : Nat) : Int) := by rw [wrap_u64 (by omega) (by omega)];omega
 have hnl := kP (n := n.toNat) (by omega)
 have hlt : decide (n < 0) = false := decide_eq_false (by omega)
 generalize bz n = Z at *
 refine Ret.of_pwp layOk mixed Go.Proofs.Tryz.func143 rfl (by decide) rfl rfl ?_
 (repeat ((fail_if_success (with_reducible refine aP 1 ?_));refine cF rfl ?_))
 ((repeat (first | refine aR ?_ | refine bV ?_ | refine bR ?_ | refine bQ ?_));refine aY ?_)
 (first | refine ay (eE 3 1 0 rfl rfl ?_) | refine ay (ez 3 1 0 rfl rfl ?_))
 repeat refine ac rfl ?_
 rw [hcv]
 repeat refine ac rfl ?_
 refine ae rfl ?_ ?_<;>intro h
 ·have := of_decide_eq_true h;omega
 clear h
 repeat refine ac rfl ?_
 refine ax (fun q : List UInt16 × Nat => q.2 < 18446744073709551616 ∧ ao n.toNat = q.1 ++ ao q.2) (fun q => [(0,I n),(2,.ptr 2 1 0 0),(3,.als 3 (q.1.length + 1) 0 (q.1.map eD).length),(4,.int .u64 (q.2 : Nat))])
  (fun q => [(2,1,⟨24,2,[[.bool false,.nil]],2⟩),(3,q.1.length + 1,⟨3,1,q.1.map eD,0⟩)]) (fun q => q.2) ([],n.toNat) ⟨by simp only;omega,rfl⟩ ⟨rfl,rfl,rfl,rfl,rfl,rfl,trivial⟩ ?_
 rintro ⟨L,u⟩ s ⟨hu,hL⟩
 simp only at hu hL
 dsimp only
 have hLl : L.length ≤ 4 := by rw [hL] at hnl;simp at hnl;omega
 repeat refine ac rfl ?_
 refine ae rfl ?_ ?_<;>intro h
 ·have hu0 : 0 < u := by have := of_decide_eq_true h;omega
  clear h
  have hst := kQ hL hu0
  have hr : IntKind.i64.wrap (Int.tmod ((u : Nat) : Int) 65536) = ((UInt16.ofNat u).toNat : Int) := by rw [j6,wrap_i64] <;> (have := aQ (UInt16.ofNat u);omega)
  have hq : IntKind.u64.wrap (Int.tdiv ((u : Nat) : Int) 65536) = ((u / 65536 : Nat) : Int) := by rw [j5,wrap_u64] <;> omega
  repeat refine ac rfl ?_
  refine bx rfl rfl (QOp.v rfl (show ¬ (65536 : Int) = 0 by decide)) ?_
  repeat refine ac rfl ?_
  rw [hr]
  refine ay (bb 0 rfl rfl rfl rfl rfl rfl rfl rfl rfl rfl rfl (by repeat' constructor) rfl ?_)
  repeat refine ac rfl ?_
  refine ay (bC 0 rfl rfl rfl rfl rfl rfl rfl rfl rfl rfl rfl (by repeat' constructor) (by intro row hr;first | (simp at hr;subst hr;rfl) | simp at hr) rfl rfl (by simp;omega) (by simp;omega) ?_)
  repeat refine ac rfl ?_
  refine bx rfl rfl (QOp.v rfl (show ¬ (65536 : Int) = 0 by decide)) ?_
  rw [hq]
  repeat refine ac rfl ?_
  refine ⟨(L ++ [UInt16.ofNat u],u / 65536),⟨by simp only;omega,hst⟩,by simp only;omega,rfl,rfl,?_,rfl,rfl,?_,trivial⟩
  ·exact f8 3 L (UInt16.ofNat u)
  ·exact eJ 3 1 0 L (UInt16.ofNat u)
 ·have hu0 : u = 0 := by have := of_decide_eq_false h;omega
  clear h
  subst hu0
  rw [a_,List.append_nil] at hL
  rw [hL] at hm
  ((repeat ((fail_if_success (with_reducible refine aP 8 ?_));refine cF rfl ?_));refine aE 3 ?_)
  iterate 2 refine ac rfl ?_
  rw [hlt]
  refine ac rfl ?_
  refine aR ?_
  refine aV rfl (cy (Ghost.takeF (enc := eD) (t := 23) (L) rfl rfl (rfl) rfl (fun _ => rfl)) ?_)
  (refine iM (c_ rfl (hm) rfl ?_ rfl) ?_;·repeat' constructor)
  refine aJ ?_
  repeat refine ac rfl ?_
  exact aF rfl rfl rfl
theorem vR (a : RI) (ha : a.l.length ≤ 800000000) : Ret Tryz.prog .shared 150 [.agg (eI a)] (.agg (eI (bz (-a.val)))) := by
 have hr := dx a.l (by omega)
 have hm := c8 (!a.neg) (aG a.l) (by have := bq a.l;omega) (dq _)
 rw [bY,show cT (!a.neg) (nv a.l) = -a.val by rw [a.val_sgz];cases a.neg <;> simp [cT]] at hm
 generalize bz (-a.val) = Z at *
 generalize aG a.l = T at *
 obtain ⟨an,al⟩ := a
 simp only at *
 refine Ret.of_pwp layOk mixed Go.Proofs.Tryz.func150 rfl (by decide) rfl rfl ?_
 repeat refine ac rfl ?_
 refine am 7 [3,4,5,6,7,8,9] (by decide +kernel) ?_
 repeat refine ac rfl ?_
 refine aq rfl rfl rfl hr rfl rfl ?_
 repeat refine ac rfl ?_
 refine aq rfl rfl rfl hm rfl rfl ?_
 repeat refine ac rfl ?_
 exact aF rfl rfl rfl
theorem td (a : RI) (ha : a.l.length ≤ 800000000) : Ret Tryz.prog .shared 92 [.agg (eI a)] (I (i6 a.val)) := by
 have ht := dx a.l (by omega)
 have hm : ((aG a.l).map eD).length = (aG a.l).length := by simp
 have h0 := jt (l := a.l)
 have hz := a.val_zero
 have hv : a.val = if a.neg then -(nv a.l : Int) else (nv a.l : Int) := rfl
 generalize aG a.l = T at *
 obtain ⟨an,al⟩ := a
 simp only at *
 refine Ret.of_pwp layOk mixed Go.Proofs.Tryz.func92 rfl (by decide) rfl rfl ?_
 repeat refine ac rfl ?_
 refine aq rfl rfl rfl ht rfl rfl ?_
 repeat refine ac rfl ?_
 refine ae rfl ?_ ?_<;>intro h
 ·have h1 : nv al = 0 := h0.1 (by have := of_decide_eq_true h;omega)
  rw [i6,if_pos (hz.2 h1)]
  repeat refine ac rfl ?_
  exact aO rfl rfl rfl
 ·have h1 : nv al ≠ 0 := by
   intro h1
   have h2 := of_decide_eq_false h
   have := h0.2 h1
   omega
  rw [i6,if_neg (fun h => h1 (hz.1 h))]
  clear h
  cases an
  ·rw [if_neg (by rw [hv];simp only [Bool.false_eq_true,if_false];omega)]
   repeat refine ac rfl ?_
   exact aO rfl rfl rfl
  ·rw [if_pos (by rw [hv];simp only [if_true];omega)]
   repeat refine ac rfl ?_
   exact aO rfl rfl rfl
set_option maxRecDepth 20000 in
theorem d7 (a b : RI) (ha : a.l.length ≤ 300000000) (hb : b.l.length ≤ 300000000) : Ret Tryz.prog .shared 90 [.agg (eI a),.agg (eI b)] (.agg (eI (bz (a.val * b.val)))) := by
 have e : a.val * b.val = cT (a.neg != b.neg) (nv a.l * nv b.l) := by
  rw [a.val_sgz,b.val_sgz]
  cases a.neg <;> cases b.neg <;> simp [cT,Int.neg_mul,Int.mul_neg]
 rw [e]
 have hta := dx a.l (by omega)
 have htb := dx b.l (by omega)
 have hla := bq a.l
 have hlb := bq b.l
 have ht := im (aG a.l) (aG b.l) (by omega) (by omega)
 rw [bY,bY] at ht
 have hs := c8 (a.neg != b.neg) (ao (nv a.l * nv b.l)) (by
  have := bE (dE (bB a.l) (bB b.l));omega) (a8 _)
 rw [aD] at hs
 obtain ⟨an,al⟩ := a
 obtain ⟨bn,bl⟩ := b
 simp only at *
 generalize aG al = A at *
 generalize aG bl = B at *
 generalize ao (nv al * nv bl) = C at *
 generalize bz (cT (an != bn) (nv al * nv bl)) = X at *
 refine Ret.of_pwp layOk mixed Go.Proofs.Tryz.func90 rfl (by decide) rfl rfl ?_
 repeat refine ac rfl ?_
 refine am 13 [5,6,7,8,9,10,11,12,13,14,15,16,17] (by decide +kernel) ?_
 repeat refine ac rfl ?_
 refine aq rfl rfl rfl hta rfl rfl ?_
 repeat refine ac rfl ?_
 refine aq rfl rfl rfl htb rfl rfl ?_
 repeat refine ac rfl ?_
 refine aq rfl rfl rfl ht rfl rfl ?_
 repeat refine ac rfl ?_
 refine aq rfl rfl rfl hs rfl rfl ?_
 repeat refine ac rfl ?_
 exact aF rfl rfl rfl
set_option maxRecDepth 20000 in
theorem vJ (a b : RI) (ha : a.l.length ≤ 300000000) (hb : b.l.length ≤ 300000000) : Ret Tryz.prog .shared 89 [.agg (eI a),.agg (eI b)] (.agg (eI (bz (a.val + b.val)))) := by
 have hta := dx a.l (by omega)
 have htb := dx b.l (by omega)
 have hla := bq a.l
 have hlb := bq b.l
 have hA := dq a.l
 have hB := dq b.l
 have hnA := bY a.l
 have hnB := bY b.l
 rw [a.val_sgz,b.val_sgz]
 obtain ⟨an,al⟩ := a
 obtain ⟨bn,bl⟩ := b
 simp only at *
 rw [← hnA,← hnB]
 generalize aG al = A at *
 generalize aG bl = B at *
 have hp := s_ A B (by omega) (by omega)
 have hcm := iQ A B (by omega) (by omega)
 have hcs := (dM hA hB).1
 have hlA := b5 A
 have hlB := b5 B
 have hlp : (ao (nv A + nv B)).length ≤ 900000000 := by
  have := n7 (n := 400000000) (A := A) (B := B) (by omega) (by omega)
  omega
 by_cases hs : an = bn
 ·subst hs
  have hd := c8 an (ao (nv A + nv B)) hlp (a8 _)
  rw [aD] at hd
  have e : cT an (nv A) + cT an (nv B) = cT an (nv A + nv B) := by cases an <;> simp only [cT,Bool.false_eq_true,if_false,if_true] <;> omega
  rw [e]
  generalize ao (nv A + nv B) = C at *
  generalize bz (cT an (nv A + nv B)) = X at *
  refine Ret.of_pwp layOk mixed Go.Proofs.Tryz.func89 rfl (by decide) rfl rfl ?_
  repeat refine ac rfl ?_
  refine am 8 [7,8,9,10,11,12,5,6] (by decide +kernel) ?_
  repeat refine ac rfl ?_
  refine aq rfl rfl rfl hta rfl rfl ?_
  repeat refine ac rfl ?_
  refine aq rfl rfl rfl htb rfl rfl ?_
  repeat refine ac rfl ?_
  refine ae rfl ?_ ?_<;>intro h
  ·clear h
   repeat refine ac rfl ?_
   refine am 6 [18,19,20,21,22,23] (by decide +kernel) ?_
   repeat refine ac rfl ?_
   refine aq rfl rfl rfl hp rfl rfl ?_
   repeat refine ac rfl ?_
   refine aq rfl rfl rfl hd rfl rfl ?_
   repeat refine ac rfl ?_
   exact aF rfl rfl rfl
  ·exfalso
   simp at h
 ·have hmA : nv B ≤ nv A → Ret Tryz.prog .shared 148 [.sl (A.map eD),.sl (B.map eD)] (.sl ((ao (nv A - nv B)).map eD)) := il A B (by omega) (by omega)
  have hmB : nv A ≤ nv B → Ret Tryz.prog .shared 148 [.sl (B.map eD),.sl (A.map eD)] (.sl ((ao (nv B - nv A)).map eD)) := il B A (by omega) (by omega)
  have hlm : (ao (nv A - nv B)).length ≤ 900000000 := by have := cB (Nat.sub_le (nv A) (nv B));omega
  have hlm2 : (ao (nv B - nv A)).length ≤ 900000000 := by have := cB (Nat.sub_le (nv B) (nv A));omega
  have hdA := c8 an (ao (nv A - nv B)) hlm (a8 _)
  have hdB := c8 bn (ao (nv B - nv A)) hlm2 (a8 _)
  rw [aD] at hdA hdB
  have eA : nv B ≤ nv A → cT an (nv A) + cT bn (nv B) = cT an (nv A - nv B) := by intro h;cases an <;> cases bn <;> simp_all only [cT,Bool.false_eq_true,if_false,if_true,not_true_eq_false,reduceCtorEq,not_false_eq_true] <;> omega
  have eB : nv A ≤ nv B → cT an (nv A) + cT bn (nv B) = cT bn (nv B - nv A) := by intro h;cases an <;> cases bn <;> simp_all only [cT,Bool.false_eq_true,if_false,if_true,not_true_eq_false,reduceCtorEq,not_false_eq_true] <;> omega
  generalize cT an (nv A) + cT bn (nv B) = Z at *
  generalize ao (nv A - nv B) = C at *
  generalize ao (nv B - nv A) = D at *
  generalize hX : bz (cT an (nv A - nv B)) = X at *
  generalize hY : bz (cT bn (nv B - nv A)) = Y at *
  refine Ret.of_pwp layOk mixed Go.Proofs.Tryz.func89 rfl (by decide) rfl rfl ?_
  repeat refine ac rfl ?_
  refine am 8 [7,8,9,10,11,12,5,6] (by decide +kernel) ?_
  repeat refine ac rfl ?_
  refine aq rfl rfl rfl hta rfl rfl ?_
  repeat refine ac rfl ?_
  refine aq rfl rfl rfl htb rfl rfl ?_
  repeat refine ac rfl ?_
  refine ae rfl ?_ ?_<;>intro h
  ·exfalso
   simp at h
   exact hs h
  ·clear h
   repeat refine ac rfl ?_
   refine aT rfl rfl rfl hcm rfl rfl rfl ?_
   repeat refine ac rfl ?_
   refine ae rfl ?_ ?_<;>intro h
   ·have hge : nv B ≤ nv A := by
     have h1 := of_decide_eq_true h
     omega
    clear h
    repeat refine ac rfl ?_
    refine am 6 [28,29,30,31,32,33] (by decide +kernel) ?_
    repeat refine ac rfl ?_
    refine aq rfl rfl rfl (hmA hge) rfl rfl ?_
    repeat refine ac rfl ?_
    refine aq rfl rfl rfl hdA rfl rfl ?_
    repeat refine ac rfl ?_
    exact pQ rfl (by repeat' constructor) rfl (by repeat' constructor) (by rw [eA hge,hX];rfl)
   ·have hge : nv A ≤ nv B := by
     have h1 := of_decide_eq_false h
     omega
    clear h
    repeat refine ac rfl ?_
    refine am 6 [34,35,36,37,38,39] (by decide +kernel) ?_
    repeat refine ac rfl ?_
    refine aq rfl rfl rfl (hmB hge) rfl rfl ?_
    repeat refine ac rfl ?_
    refine aq rfl rfl rfl hdB rfl rfl ?_
    repeat refine ac rfl ?_
    exact pQ rfl (by repeat' constructor) rfl (by repeat' constructor) (by rw [eB hge,hY];rfl)
theorem oV (z : Int) : ofQ ((z : Rat)) = ⟨bz z,bz 1⟩ := by
 rw [ofQ,Rat.num_intCast,Rat.den_intCast];rfl
theorem j1 (q : Rat) : ofQ q = ⟨bz q.num,bz (q.den : Int)⟩ := by
 rw [ofQ,bz,bz]
 congr 2
set_option maxRecDepth 20000 in
theorem fm (a b : RI) (ha : a.l.length ≤ 90000000) (hb : b.l.length ≤ 90000000) : Ret Tryz.prog .shared 88 [.agg (eI a),.agg (eI b)] (.agg (eR (ofQ ((a.val : Rat) / (b.den : Rat))))) := by
 have hta := dx a.l (by omega)
 have htb := dx b.l (by omega)
 have hla := bq a.l
 have hlb := bq b.l
 have hb0 := jt (l := b.l)
 have hAn := bY a.l
 have hBn := bY b.l
 have hAt := dq a.l
 have hBt := dq b.l
 have h1 := xX 1 (by decide) (by decide)
 by_cases h0 : nv b.l = 0
 ·have e : ofQ ((a.val : Rat) / (b.den : Rat)) = ⟨bz a.val,bz 1⟩ := by
   rw [RI.den,if_pos h0,← oV]
   congr 1
   rw [show ((1 : Int) : Rat) = 1 from rfl];grind
  rw [e]
  have hm := c8 a.neg (aG a.l) (by omega) hAt
  rw [hAn,← a.val_sgz] at hm
  have hz : aG b.l = [] := by rw [aG,h0,a_]
  rw [hz] at htb
  generalize bz a.val = X at *
  generalize bz 1 = Y at *
  generalize aG a.l = A at *
  obtain ⟨an,al⟩ := a
  obtain ⟨bn,bl⟩ := b
  simp only at *
  refine Ret.of_pwp layOk mixed Go.Proofs.Tryz.func88 rfl (by decide) rfl rfl ?_
  repeat refine ac rfl ?_
  refine am 8 [12,13,14,15,16,17,5,6] (by decide +kernel) ?_
  repeat refine ac rfl ?_
  refine aq rfl rfl rfl hta rfl rfl ?_
  repeat refine ac rfl ?_
  refine aq rfl rfl rfl htb rfl rfl ?_
  repeat refine ac rfl ?_
  refine aq rfl rfl rfl hm rfl rfl ?_
  repeat refine ac rfl ?_
  refine aq rfl rfl rfl h1 rfl rfl ?_
  repeat refine ac rfl ?_
  exact aF rfl rfl rfl
 ·have hbp : 0 < nv b.l := Nat.pos_of_ne_zero h0
  rw [RI.den,if_neg h0,oW a b h0]
  have hg := vP (aG a.l) (aG b.l) (by omega) (by omega) hAt hBt
  rw [hAn,hBn] at hg
  have hgp : 0 < Nat.gcd (nv a.l) (nv b.l) := Nat.gcd_pos_of_pos_right _ hbp
  have hgl : Nat.gcd (nv a.l) (nv b.l) ≤ nv b.l := Nat.gcd_le_right _ hbp
  have hgs : (ao (Nat.gcd (nv a.l) (nv b.l))).length ≤ 90000000 := by
   have := fg (L := b.l) hgl;omega
  generalize Nat.gcd (nv a.l) (nv b.l) = g at *
  have d1 := jn (aG a.l) (ao g) (by omega) (by omega) (by rw [aD];omega)
  have d2 := jn (aG b.l) (ao g) (by omega) (by omega) (by rw [aD];omega)
  rw [Am,aD,hAn] at d1
  rw [Am,aD,hBn] at d2
  have m1 := c8 (a.neg != b.neg) (ao (nv a.l / g)) (by have := fg (L := a.l) (Nat.div_le_self (nv a.l) g);omega) (a8 _)
  have m2 := c8 false (ao (nv b.l / g)) (by have := fg (L := b.l) (Nat.div_le_self (nv b.l) g);omega) (a8 _)
  rw [aD] at m1 m2
  have hbl : ¬ ((aG b.l).length = 0) := fun h => h0 (hb0.1 h)
  have hbm : ((aG b.l).map eD).length = (aG b.l).length := by simp
  generalize bz (cT (a.neg != b.neg) (nv a.l / g)) = X at *
  generalize bz (cT false (nv b.l / g)) = Y at *
  generalize ao (nv a.l / g) = A2 at *
  generalize ao (nv b.l / g) = B2 at *
  generalize ao (nv a.l % g) = A3 at *
  generalize ao (nv b.l % g) = B3 at *
  generalize ao g = G at *
  generalize aG a.l = A at *
  generalize aG b.l = B at *
  obtain ⟨an,al⟩ := a
  obtain ⟨bn,bl⟩ := b
  simp only at *
  refine Ret.of_pwp layOk mixed Go.Proofs.Tryz.func88 rfl (by decide) rfl rfl ?_
  repeat refine ac rfl ?_
  refine am 8 [12,13,14,15,16,17,5,6] (by decide +kernel) ?_
  repeat refine ac rfl ?_
  refine aq rfl rfl rfl hta rfl rfl ?_
  repeat refine ac rfl ?_
  refine aq rfl rfl rfl htb rfl rfl ?_
  repeat refine ac rfl ?_
  refine ae rfl ?_ ?_<;>intro h
  ·exact absurd (by have := of_decide_eq_true h;omega) hbl
  clear h
  repeat refine ac rfl ?_
  refine aq rfl rfl rfl hg rfl rfl ?_
  repeat refine ac rfl ?_
  refine aq rfl rfl rfl d1 rfl rfl ?_
  repeat refine ac rfl ?_
  refine aq rfl rfl rfl d2 rfl rfl ?_
  repeat refine ac rfl ?_
  refine aq rfl rfl rfl m1 rfl rfl ?_
  repeat refine ac rfl ?_
  refine aq rfl rfl rfl m2 rfl rfl ?_
  repeat refine ac rfl ?_
  exact aF rfl rfl rfl
theorem cS (x : RR) (hn : x.n.l.length ≤ 90000000) (hd : x.d.l.length ≤ 90000000) : Ret Tryz.prog .shared 87 [.agg (eR x)] (.agg (eR (ofQ x.val))) := by
 have h := fm x.n x.d hn hd
 rw [show (x.n.val : Rat) / (x.d.den : Rat) = x.val from rfl] at h
 generalize ofQ x.val = X at *
 refine Ret.of_pwp layOk mixed Go.Proofs.Tryz.func87 rfl (by decide) rfl rfl ?_
 repeat refine ac rfl ?_
 refine aq rfl rfl rfl h rfl rfl ?_
 repeat refine ac rfl ?_
 exact aF rfl rfl rfl
theorem dh (q : Rat) : (ofQ q).n.val = q.num := bu _
theorem cg (q : Rat) : (ofQ q).d.val = (q.den : Int) := by rw [j1];exact bu _
theorem s7 (x : RR) {p : Rat} {n : Nat} [hx : Vq x p n] (hn : n ≤ 50000000) : Ret Tryz.prog .shared 91 [.agg (eR x)] (.agg (eR (ofQ (-p)))) := by
 have h1 := hx.sz
 have hh := hx.hq
 have hl := c7 hh.ok
 have hnm := cS x (by omega) (by omega)
 rw [hx.val] at hnm
 have hng := vR (ofQ p).n (by omega)
 rw [dh] at hng
 have e : ofQ (-p) = ⟨bz (-p.num),(ofQ p).d⟩ := by rw [j1,j1];simp
 rw [e]
 generalize bz (-p.num) = Z at *
 generalize ofQ p = P at *
 refine Ret.of_pwp layOk mixed Go.Proofs.Tryz.func91 rfl (by decide) rfl rfl ?_
 repeat refine ac rfl ?_
 refine aq rfl rfl rfl hnm rfl rfl ?_
 repeat refine ac rfl ?_
 refine am 6 [6,7,8,9,10,11] (by decide +kernel) ?_
 repeat refine ac rfl ?_
 refine aq rfl rfl rfl hng rfl rfl ?_
 repeat refine ac rfl ?_
 exact aF rfl rfl rfl
theorem xU (q : Rat) : nv (ofQ q).d.l ≠ 0 := by
 have := cg q
 have h2 := (ofQ q).d.val_abs
 rw [this] at h2
 have := q.den_pos
 omega
theorem i_ {a : RI} (h : nv a.l ≠ 0) : a.den = a.val := by rw [RI.den,if_neg h]
set_option maxRecDepth 20000 in
theorem s6 (x y : RR) {p q : Rat} {n m : Nat} [hx : Vq x p n] [hy : Vq y q m] (hn : n ≤ 20000000) (hm : m ≤ 20000000) : Ret Tryz.prog .shared 27 [.agg (eR x),.agg (eR y)] (.agg (eR (ofQ (p * q)))) := by
 have h1 := hx.sz
 have h2 := hy.sz
 have l1 := c7 hx.hq.ok
 have l2 := c7 hy.hq.ok
 have n1 := cS x (by omega) (by omega)
 have n2 := cS y (by omega) (by omega)
 rw [hx.val] at n1
 rw [hy.val] at n2
 have m1 := d7 (ofQ p).n (ofQ q).n (by omega) (by omega)
 have m2 := d7 (ofQ p).d (ofQ q).d (by omega) (by omega)
 have k1 := bL (ofQ p).n (ofQ q).n
 have k2 := bL (ofQ p).d (ofQ q).d
 have m3 := fm (bz ((ofQ p).n.val * (ofQ q).n.val)) (bz ((ofQ p).d.val * (ofQ q).d.val)) (by omega) (by omega)
 have hne : nv (bz ((ofQ p).d.val * (ofQ q).d.val)).l ≠ 0 := by
  rw [jJ,aD,cg,cg,Int.natAbs_mul]
  have := Nat.mul_pos p.den_pos q.den_pos
  simp only [Int.natAbs_natCast];omega
 rw [i_ hne,bu,bu,dh,dh,cg,cg,← nH,← dD,← dD] at m3
 rw [dh,dh] at m1
 rw [cg,cg] at m2
 generalize bz (p.num * q.num) = Z1 at *
 generalize bz ((p.den : Int) * (q.den : Int)) = Z2 at *
 generalize ofQ (p * q) = R at *
 generalize ofQ p = P at *
 generalize ofQ q = Q at *
 refine Ret.of_pwp layOk mixed Go.Proofs.Tryz.func27 rfl (by decide) rfl rfl ?_
 repeat refine ac rfl ?_
 refine aZ 4 2 [7,8,9,10,5,6] [] (by decide +kernel) rfl ?_
 repeat refine ac rfl ?_
 refine aq rfl rfl rfl n1 rfl rfl ?_
 repeat refine ac rfl ?_
 refine aq rfl rfl rfl n2 rfl rfl ?_
 repeat refine ac rfl ?_
 refine am 11 [11,12,13,14,15,16,17,18,19,20,21] (by decide +kernel) ?_
 repeat refine ac rfl ?_
 refine aq rfl rfl rfl m1 rfl rfl ?_
 repeat refine ac rfl ?_
 refine aq rfl rfl rfl m2 rfl rfl ?_
 repeat refine ac rfl ?_
 refine aq rfl rfl rfl m3 rfl rfl ?_
 repeat refine ac rfl ?_
 exact aF rfl rfl rfl
set_option maxRecDepth 20000 in
theorem ta (x y : RR) {p q : Rat} {n m : Nat} [hx : Vq x p n] [hy : Vq y q m] (hn : n ≤ 20000000) (hm : m ≤ 20000000) (h0 : q ≠ 0) : Ret Tryz.prog .shared 62 [.agg (eR x),.agg (eR y)] (.agg (eR (ofQ (p / q)))) := by
 have h1 := hx.sz
 have h2 := hy.sz
 have l1 := c7 hx.hq.ok
 have l2 := c7 hy.hq.ok
 have n1 := cS x (by omega) (by omega)
 have n2 := cS y (by omega) (by omega)
 rw [hx.val] at n1
 rw [hy.val] at n2
 have m1 := d7 (ofQ p).n (ofQ q).d (by omega) (by omega)
 have m2 := d7 (ofQ p).d (ofQ q).n (by omega) (by omega)
 have k1 := bL (ofQ p).n (ofQ q).d
 have k2 := bL (ofQ p).d (ofQ q).n
 have m3 := fm (bz ((ofQ p).n.val * (ofQ q).d.val)) (bz ((ofQ p).d.val * (ofQ q).n.val)) (by omega) (by omega)
 have hne : nv (bz ((ofQ p).d.val * (ofQ q).n.val)).l ≠ 0 := by
  rw [jJ,aD,cg,dh,Int.natAbs_mul]
  have hq : q.num ≠ 0 := fun h => h0 (Rat.num_eq_zero.1 h)
  have := Nat.mul_pos p.den_pos (show 0 < q.num.natAbs by omega)
  simp only [Int.natAbs_natCast];omega
 rw [i_ hne,bu,bu,dh,dh,cg,cg,← nG,← dD,← dD] at m3
 rw [dh,cg] at m1
 rw [cg,dh] at m2
 generalize bz (p.num * (q.den : Int)) = Z1 at *
 generalize bz ((p.den : Int) * q.num) = Z2 at *
 generalize ofQ (p / q) = R at *
 generalize ofQ p = P at *
 generalize ofQ q = Q at *
 refine Ret.of_pwp layOk mixed Go.Proofs.Tryz.func62 rfl (by decide) rfl rfl ?_
 repeat refine ac rfl ?_
 refine aZ 4 2 [7,8,9,10,5,6] [] (by decide +kernel) rfl ?_
 repeat refine ac rfl ?_
 refine aq rfl rfl rfl n1 rfl rfl ?_
 repeat refine ac rfl ?_
 refine aq rfl rfl rfl n2 rfl rfl ?_
 repeat refine ac rfl ?_
 refine am 11 [11,12,13,14,15,16,17,18,19,20,21] (by decide +kernel) ?_
 repeat refine ac rfl ?_
 refine aq rfl rfl rfl m1 rfl rfl ?_
 repeat refine ac rfl ?_
 refine aq rfl rfl rfl m2 rfl rfl ?_
 repeat refine ac rfl ?_
 refine aq rfl rfl rfl m3 rfl rfl ?_
 repeat refine ac rfl ?_
 exact aF rfl rfl rfl
set_option maxRecDepth 20000 in
theorem mB (x y : RR) {p q : Rat} {n m : Nat} [hx : Vq x p n] [hy : Vq y q m] (hn : n ≤ 20000000) (hm : m ≤ 20000000) : Ret Tryz.prog .shared 26 [.agg (eR x),.agg (eR y)] (.agg (eR (ofQ (p + q)))) := by
 have h1 := hx.sz
 have h2 := hy.sz
 have l1 := c7 hx.hq.ok
 have l2 := c7 hy.hq.ok
 have n1 := cS x (by omega) (by omega)
 have n2 := cS y (by omega) (by omega)
 rw [hx.val] at n1
 rw [hy.val] at n2
 have m1 := d7 (ofQ p).n (ofQ q).d (by omega) (by omega)
 have m2 := d7 (ofQ q).n (ofQ p).d (by omega) (by omega)
 have m4 := d7 (ofQ p).d (ofQ q).d (by omega) (by omega)
 have k1 := bL (ofQ p).n (ofQ q).d
 have k2 := bL (ofQ q).n (ofQ p).d
 have k4 := bL (ofQ p).d (ofQ q).d
 have m5 := vJ (bz ((ofQ p).n.val * (ofQ q).d.val)) (bz ((ofQ q).n.val * (ofQ p).d.val)) (by omega) (by omega)
 have k5 := oY (bz ((ofQ p).n.val * (ofQ q).d.val)) (bz ((ofQ q).n.val * (ofQ p).d.val)) (n := 50000000) (by omega) (by omega)
 rw [bu,bu] at m5 k5
 have m3 := fm (bz ((ofQ p).n.val * (ofQ q).d.val + (ofQ q).n.val * (ofQ p).d.val)) (bz ((ofQ p).d.val * (ofQ q).d.val)) (by omega) (by omega)
 have hne : nv (bz ((ofQ p).d.val * (ofQ q).d.val)).l ≠ 0 := by
  rw [jJ,aD,cg,cg,Int.natAbs_mul]
  have := Nat.mul_pos p.den_pos q.den_pos
  simp only [Int.natAbs_natCast];omega
 rw [i_ hne,bu,bu,dh,dh,cg,cg,← nF _ _ _ _ (b0 p) (b0 q),← dD,← dD] at m3
 rw [dh,cg] at m1
 rw [dh,cg] at m2
 rw [cg,cg] at m4
 rw [dh,dh,cg,cg] at m5
 generalize bz (p.num * (q.den : Int) + q.num * (p.den : Int)) = Z5 at *
 generalize bz (p.num * (q.den : Int)) = Z1 at *
 generalize bz (q.num * (p.den : Int)) = Z2 at *
 generalize bz ((p.den : Int) * (q.den : Int)) = Z4 at *
 generalize ofQ (p + q) = R at *
 generalize ofQ p = P at *
 generalize ofQ q = Q at *
 refine Ret.of_pwp layOk mixed Go.Proofs.Tryz.func26 rfl (by decide) rfl rfl ?_
 repeat refine ac rfl ?_
 refine aZ 4 2 [7,8,9,10,5,6] [] (by decide +kernel) rfl ?_
 repeat refine ac rfl ?_
 refine aq rfl rfl rfl n1 rfl rfl ?_
 repeat refine ac rfl ?_
 refine aq rfl rfl rfl n2 rfl rfl ?_
 repeat refine ac rfl ?_
 refine am 17 [11,12,13,14,15,16,17,18,19,20,21,22,23,24,25,26,27] (by decide +kernel) ?_
 repeat refine ac rfl ?_
 refine aq rfl rfl rfl m1 rfl rfl ?_
 repeat refine ac rfl ?_
 refine aq rfl rfl rfl m2 rfl rfl ?_
 repeat refine ac rfl ?_
 refine aq rfl rfl rfl m5 rfl rfl ?_
 repeat refine ac rfl ?_
 refine aq rfl rfl rfl m4 rfl rfl ?_
 repeat refine ac rfl ?_
 refine aq rfl rfl rfl m3 rfl rfl ?_
 repeat refine ac rfl ?_
 exact aF rfl rfl rfl
theorem te (x y : RR) {p q : Rat} {n m : Nat} [hx : Vq x p n] [hy : Vq y q m] (hn : n ≤ 10000000) (hm : m ≤ 10000000) : Ret Tryz.prog .shared 28 [.agg (eR x),.agg (eR y)] (.agg (eR (ofQ (p - q)))) := by
 have h1 := s7 y (by omega)
 have vn : Vq (ofQ (-q)) (-q) (m + 1) := Vq.ofQ (h := @HQ.neg _ _ hy.hq)
 have h2 := mB x (ofQ (-q)) (hy := vn) (by omega) (by omega)
 rw [← Rat.sub_eq_add_neg] at h2
 generalize ofQ (-q) = Y at *
 generalize ofQ (p - q) = X at *
 refine Ret.of_pwp layOk mixed Go.Proofs.Tryz.func28 rfl (by decide) rfl rfl ?_
 repeat refine ac rfl ?_
 refine am 4 [5,6,7,8] (by decide +kernel) ?_
 repeat refine ac rfl ?_
 refine aq rfl rfl rfl h1 rfl rfl ?_
 repeat refine ac rfl ?_
 refine aq rfl rfl rfl h2 rfl rfl ?_
 repeat refine ac rfl ?_
 exact aF rfl rfl rfl
theorem x9 (p : Rat) : i6 p.num = sgn p := by
 have h1 : (ofQ p).val = p := ofQ_val p
 have h2 := rE (ofQ p)
 rw [h1,dh] at h2
 have h3 : (dn (ofQ p)).val = (p.den : Int) := by rw [dn,if_neg (xU p),cg]
 rw [h3] at h2
 rw [h2]
 have := p.den_pos
 have h4 : i6 (p.den : Int) = 1 := by unfold i6;split <;> (try split) <;> omega
 rw [h4];omega
theorem lj (x : RR) {p : Rat} {n : Nat} [hx : Vq x p n] (hn : n ≤ 50000000) : Ret Tryz.prog .shared 29 [.agg (eR x)] (I (sgn p)) := by
 have h1 := hx.sz
 have hl := c7 hx.hq.ok
 have hnm := cS x (by omega) (by omega)
 rw [hx.val] at hnm
 have hs := td (ofQ p).n (by omega)
 rw [dh,x9] at hs
 generalize sgn p = g at *
 generalize ofQ p = P at *
 obtain ⟨Pn,Pd⟩ := P
 simp only at *
 refine Ret.of_pwp layOk mixed Go.Proofs.Tryz.func29 rfl (by decide) rfl rfl ?_
 repeat refine ac rfl ?_
 refine aq rfl rfl rfl hnm rfl rfl ?_
 repeat refine ac rfl ?_
 refine aT rfl rfl rfl hs rfl rfl rfl ?_
 repeat refine ac rfl ?_
 exact aO rfl rfl rfl
theorem jl (x y : RR) {p q : Rat} {n m : Nat} [hx : Vq x p n] [hy : Vq y q m] (hn : n ≤ 10000000) (hm : m ≤ 10000000) : Ret Tryz.prog .shared 42 [.agg (eR x),.agg (eR y)] (I (sgn (p - q))) := by
 have h1 := te x y hn hm
 have vs : Vq (ofQ (p - q)) (p - q) (n + 1 + (m + 1) + 1) := Vq.ofQ (h := @HQ.sub _ _ _ _ hx.hq hy.hq)
 have h2 := lj (ofQ (p - q)) (hx := vs) (by omega)
 generalize ofQ (p - q) = X at *
 generalize sgn (p - q) = g at *
 refine Ret.of_pwp layOk mixed Go.Proofs.Tryz.func42 rfl (by decide) rfl rfl ?_
 repeat refine ac rfl ?_
 refine aq rfl rfl rfl h1 rfl rfl ?_
 repeat refine ac rfl ?_
 refine aT rfl rfl rfl h2 rfl rfl rfl ?_
 repeat refine ac rfl ?_
 exact aO rfl rfl rfl
def dZ (x : Rat) : Rat := if 0 < x then x else 0
def pZ (x y : Rat) : Rat := if y < x then y else x
def bg (M : Nat → Rat) : Nat → Rat
 |0 => 0
 |k + 1 => M k
def cw (S M : Nat → Rat) (y : Rat) (k : Nat) : Rat := if y - S k < 0 then 0 else (M k - bg M k) * (y - S k)
def qC (S : Nat → Rat) (n : Nat) (y : Rat) (k : Nat) : Rat := if k + 1 < n then pZ y (S (k + 1)) else y
def ia (S M : Nat → Rat) (n : Nat) (y : Rat) (k : Nat) : Rat := M k * dZ (qC S n y k - S k)
theorem ji {S M : Nat → Rat} {y : Rat} (k : Nat) : cw S M y k = (M k - bg M k) * dZ (y - S k) := by
 rw [cw,dZ];grind
theorem mC (S M : Nat → Rat) (y : Rat) : ∀ (k n : Nat),(∀ i,i < k → S i < S (i + 1)) → k < n → ak (cw S M y) (k + 1) = ak (ia S M n y) k + M k * dZ (y - S k)
 |0,n,_,_ => by
  rw [ak,ak,ak,ji,bg];grind
 |k + 1,n,h,hk => by
  have ih := mC S M y k n (fun i hi => h i (by omega)) (by omega)
  have hs := h k (by omega)
  rw [ak,ih,ji,bg,ak,ia,qC,if_pos hk]
  have key : dZ (y - S k) = dZ (pZ y (S (k + 1)) - S k) + dZ (y - S (k + 1)) := by
   simp only [dZ,pZ];grind
  rw [key];grind
theorem ig {S M : Nat → Rat} {y : Rat} {n : Nat} (h : ∀ i,i + 1 < n → S i < S (i + 1)) : ak (cw S M y) n = ak (ia S M n y) n := by
 cases n with
 |zero => rfl
 |succ k =>
  rw [mC S M y k (k + 1) (fun i hi => h i (by omega)) (by omega)]
  rw [ak,ia,qC,if_neg (by omega)]
theorem j7 {f g : Nat → Rat} : ∀ {n : Nat},(∀ k,k < n → f k ≤ g k) → ak f n ≤ ak g n
 |0,_ => Rat.le_refl
 |n + 1,h => by
  have h1 := j7 (n := n) fun k hk => h k (by omega)
  have h2 := h n (by omega)
  rw [ak,ak];grind
theorem pq {f g : Nat → Rat} : ∀ {n : Nat},ak (fun k => f k + g k) n = ak f n + ak g n
 |0 => by rw [ak,ak,ak];grind
 |n + 1 => by rw [ak,ak,ak,pq];grind
theorem lB {f : Nat → Rat} {c : Rat} : ∀ {n : Nat},ak (fun k => f k * c) n = ak f n * c
 |0 => by rw [ak,ak];grind
 |n + 1 => by rw [ak,ak,lB];grind
structure Crv (n : Nat) (S M : Nat → Rat) : Prop where
 asc : ∀ k,k + 1 < n → S k < S (k + 1)
 nn : ∀ k,k < n → 0 ≤ M k
def fG (n : Nat) (S M : Nat → Rat) (y : Rat) : Rat := ak (cw S M y) n
def gx (S M : Nat → Rat) (p : Nat) : Rat := ak (fun k => (M k - bg M k) * S k) p
def InL (n : Nat) (S : Nat → Rat) (p : Nat) (y : Rat) : Prop := p ≤ n ∧ (∀ k,p = k + 1 → S k < y) ∧ (p < n → y ≤ S p)
def zQ (n : Nat) (S : Nat → Rat) (p : Nat) (y : Rat) : Prop := p ≤ n ∧ (∀ k,p = k + 1 → S k ≤ y) ∧ (p < n → y ≤ S p)
section
variable {n : Nat} {S M : Nat → Rat} {y : Rat} {p : Nat}
theorem InL.c (h : InL n S p y) : zQ n S p y := ⟨h.1,fun k hk => by have := h.2.1 k hk;grind,h.2.2⟩
theorem Crv.mono_st (h : Crv n S M) : ∀ {j i : Nat},i ≤ j → j < n → S i ≤ S j
 |0,i,h1,_ => by
  have : i = 0 := by omega
  subst this;exact Rat.le_refl
 |j + 1,i,h1,h2 => by
  by_cases he : i = j + 1
  ·subst he;exact Rat.le_refl
  ·have := h.mono_st (j := j) (i := i) (by omega) (by omega)
   have := h.asc j (by omega)
   grind
theorem InL.some (h : Crv n S M) (y : Rat) : ∀ (m : Nat),m ≤ n → ∃ p,p ≤ m ∧ (∀ k,p = k + 1 → S k < y) ∧ (p < m → y ≤ S p)
 |0,_ => ⟨0,Nat.le_refl _,fun k hk => by omega,fun hk => by omega⟩
 |m + 1,hm => by
  by_cases hy : S m < y
  ·exact ⟨m + 1,Nat.le_refl _,fun k hk => by have : k = m := by omega
                                             subst this;exact hy,fun hk => by omega⟩
  ·obtain ⟨p,h1,h2,h3⟩ := InL.some h y m (by omega)
   refine ⟨p,by omega,h2,fun _ => ?_⟩
   by_cases hp : p < m
   ·exact h3 hp
   ·have : p = m := by omega
    subst this;grind
theorem InL.get (h : Crv n S M) (y : Rat) : ∃ p,InL n S p y := InL.some h y n (Nat.le_refl _)
theorem mq : ∀ (p : Nat),ak (fun k => (M k - bg M k) * (y - S k)) p = bg M p * y - gx S M p
 |0 => by rw [ak,gx,ak,bg];grind
 |p + 1 => by rw [ak,mq p,gx,gx,ak,bg];grind
theorem mR (h : Crv n S M) (hp : zQ n S p y) : fG n S M y = bg M p * y - gx S M p := by
 obtain ⟨h1,h2,h3⟩ := hp
 rw [← mq,fG]
 have key : ∀ m,p + m ≤ n → ak (cw S M y) (p + m) = ak (fun k => (M k - bg M k) * (y - S k)) p := by
  intro m
  induction m with
  |zero =>
   intro _
   refine ee fun k hk => ?_
   have : S k ≤ y := by
    cases p with
    |zero => omega
    |succ p =>
     have := h2 p rfl
     have := h.mono_st (i := k) (j := p) (by omega) (by omega)
     grind
   rw [cw,if_neg (by grind)]
  |succ m ih =>
   intro hm
   rw [Nat.add_succ,ak,ih (by omega),cw]
   have h4 := h3 (by omega)
   have h5 := h.mono_st (i := p) (j := p + m) (by omega) (by omega)
   split
   ·grind
   ·have : y - S (p + m) = 0 := by grind
    rw [this];grind
 have := key (n - p) (by omega)
 rwa [show p + (n - p) = n by omega] at this
theorem y9 (h : Crv n S M) (hp : p ≤ n) : 0 ≤ bg M p := by
 cases p with
 |zero => rw [bg];exact Rat.le_refl
 |succ p => exact h.nn p (by omega)
theorem xO (x : Rat) : 0 ≤ dZ x := by rw [dZ];grind
theorem sV {x z : Rat} (h : x ≤ z) : dZ x ≤ dZ z := by simp only [dZ];grind
theorem zL (h : Crv n S M) : 0 ≤ fG n S M y := by
 rw [fG,ig h.asc]
 refine fX fun k hk => ?_
 rw [ia]
 exact Rat.mul_nonneg (h.nn k hk) (xO _)
theorem pz (h : Crv n S M) {x z : Rat} (hx : x ≤ z) : fG n S M x ≤ fG n S M z := by
 rw [fG,fG,ig h.asc,ig h.asc]
 refine j7 fun k hk => ?_
 rw [ia,ia]
 refine Rat.mul_le_mul_of_nonneg_left (sV ?_) (h.nn k hk)
 have : qC S n x k ≤ qC S n z k := by
  simp only [qC,pZ];grind
 grind
def kw (n : Nat) (S M : Nat → Rat) : Rat := gx S M n * (-1)
theorem wJ (h : Crv n S M) (hl : zQ n S n y) (h0 : bg M n = 0) : fG n S M y = kw n S M := by
 rw [mR h hl,h0,kw];grind
end
structure Bd where
 N : Nat
 X : Nat → Rat
 C : Nat → Rat
 n : Nat → Nat
 S : Nat → Nat → Rat
 M : Nat → Nat → Rat
 w : Rat
 A : Rat
structure Bd.Ok (b : Bd) : Prop where
 crv : ∀ i,i < b.N → Crv (b.n i) (b.S i) (b.M i)
 pos : 0 < b.w
namespace Bd
variable {b : Bd}
def y (b : Bd) (z t : Rat) (i : Nat) : Rat := b.C i + (z + t * b.X i)
def f (b : Bd) (z t : Rat) (i : Nat) : Rat := fG (b.n i) (b.S i) (b.M i) (b.y z t i)
def F (b : Bd) (z t : Rat) : Rat := ak (b.f z t) b.N
def G (b : Bd) (z t : Rat) : Rat := ak (fun i => b.f z t i * b.X i) b.N
def e (b : Bd) (z t : Rat) : Rat := b.G z t - b.w * b.A
def Least (b : Bd) (z t : Rat) : Prop := b.F z t = b.w ∧ ∀ z',z' < z → b.F z' t < b.w
def Bal (b : Bd) (z t : Rat) : Prop := b.F z t = b.w ∧ b.G z t = b.w * b.A
theorem zj (h : b.Ok) {z z' t : Rat} (hz : z ≤ z') {i : Nat} (hi : i < b.N) : b.f z t i ≤ b.f z' t i := pz (h.crv i hi) (by rw [y,y];grind)
theorem yV (h : b.Ok) {z z' t : Rat} (hz : z ≤ z') : b.F z t ≤ b.F z' t := j7 fun _ hi => zj h hz hi
theorem AJ (h : b.Ok) {z t : Rat} {i : Nat} (hi : i < b.N) : 0 ≤ b.f z t i := zL (h.crv i hi)
def Inl (b : Bd) (p : Nat → Nat) (z t : Rat) : Prop := ∀ i,i < b.N → InL (b.n i) (b.S i) (p i) (b.y z t i)
def Inc (b : Bd) (p : Nat → Nat) (z t : Rat) : Prop := ∀ i,i < b.N → zQ (b.n i) (b.S i) (p i) (b.y z t i)
def k (b : Bd) (p : Nat → Nat) (i : Nat) : Rat := bg (b.M i) (p i)
def o (b : Bd) (p : Nat → Nat) (i : Nat) : Rat := gx (b.S i) (b.M i) (p i)
def Kh (b : Bd) (p : Nat → Nat) : Rat := ak (b.k p) b.N
def Kc (b : Bd) (p : Nat → Nat) : Rat := ak (fun i => b.k p i * b.X i) b.N
def Kp (b : Bd) (p : Nat → Nat) : Rat := ak (fun i => b.k p i * b.X i * b.X i) b.N
def Fo (b : Bd) (p : Nat → Nat) : Rat := ak (fun i => b.k p i * b.C i - b.o p i) b.N
def Go (b : Bd) (p : Nat → Nat) : Rat := ak (fun i => (b.k p i * b.C i - b.o p i) * b.X i) b.N
theorem Inl.c {p : Nat → Nat} {z t : Rat} (h : b.Inl p z t) : b.Inc p z t := fun i hi => (h i hi).c
theorem An (h : b.Ok) {p : Nat → Nat} {z t : Rat} (hp : b.Inc p z t) {i : Nat} (hi : i < b.N) : b.f z t i = b.k p i * b.y z t i - b.o p i := mR (h.crv i hi) (hp i hi)
theorem F_at (h : b.Ok) {p : Nat → Nat} {z t : Rat} (hp : b.Inc p z t) : b.F z t = b.Kh p * z + b.Kc p * t + b.Fo p := by
 rw [F,ee (g := fun i => b.k p i * b.y z t i - b.o p i) fun i hi => An h hp hi]
 have key : ∀ n,ak (fun i => b.k p i * b.y z t i - b.o p i) n = ak (b.k p) n * z + ak (fun i => b.k p i * b.X i) n * t + ak (fun i => b.k p i * b.C i - b.o p i) n := by
  intro n
  induction n with
  |zero => simp only [ak];grind
  |succ n ih => simp only [ak];rw [ih,y];grind
 exact key b.N
theorem G_at (h : b.Ok) {p : Nat → Nat} {z t : Rat} (hp : b.Inc p z t) : b.G z t = b.Kc p * z + b.Kp p * t + b.Go p := by
 rw [G,ee (g := fun i => (b.k p i * b.y z t i - b.o p i) * b.X i) fun i hi => by rw [An h hp hi]]
 have key : ∀ n,ak (fun i => (b.k p i * b.y z t i - b.o p i) * b.X i) n = ak (fun i => b.k p i * b.X i) n * z + ak (fun i => b.k p i * b.X i * b.X i) n * t + ak (fun i => (b.k p i * b.C i - b.o p i) * b.X i) n := by
  intro n
  induction n with
  |zero => simp only [ak];grind
  |succ n ih => simp only [ak];rw [ih,y];grind
 exact key b.N
theorem AK (h : b.Ok) {p : Nat → Nat} {z t : Rat} (hp : b.Inc p z t) {i : Nat} (hi : i < b.N) : 0 ≤ b.k p i := y9 (h.crv i hi) (hp i hi).1
theorem sE {p : Nat → Nat} {z t : Rat} (hp : b.Inl p z t) : ∃ d,0 < d ∧ ∀ d',0 ≤ d' → d' ≤ d → b.Inl p (z - d') t := by
 have key : ∀ m,m ≤ b.N → ∃ d : Rat,0 < d ∧ ∀ d',0 ≤ d' → d' ≤ d → ∀ i,i < m → InL (b.n i) (b.S i) (p i) (b.y (z - d') t i) := by
  intro m
  induction m with
  |zero => exact fun _ => ⟨1,by decide,fun _ _ _ i hi => by omega⟩
  |succ m ih =>
   intro hm
   obtain ⟨d,h1,h2⟩ := ih (by omega)
   obtain ⟨g1,g2,g3⟩ := hp m (by omega)
   obtain ⟨d2,h3,h4⟩ : ∃ d2 : Rat,0 < d2 ∧ ∀ k,p m = k + 1 → b.S m k < b.y z t m - d2 := by
    cases hpm : p m with
    |zero => exact ⟨1,by decide,fun k hk => by omega⟩
    |succ k =>
     have := g2 k hpm
     refine ⟨(b.y z t m - b.S m k) / 2,by grind,fun k' hk' => ?_⟩
     obtain rfl : k = k' := by omega
     grind
   refine ⟨pZ d d2,by rw [pZ];grind,fun d' h5 h6 i hi => ?_⟩
   have h7 : d' ≤ d ∧ d' ≤ d2 := by rw [pZ] at h6;grind
   by_cases he : i < m
   ·exact h2 d' h5 h7.1 i he
   ·obtain rfl : i = m := by omega
    have hy : b.y (z - d') t i = b.y z t i - d' := by rw [y,y];grind
    refine ⟨g1,fun k hk => ?_,fun hk => ?_⟩
    ·have := h4 k hk;rw [hy];grind
    ·have := g3 hk;rw [hy];grind
 obtain ⟨d,h1,h2⟩ := key b.N (Nat.le_refl _)
 exact ⟨d,h1,fun d' h3 h4 i hi => h2 d' h3 h4 i hi⟩
theorem Least.K (h : b.Ok) {p : Nat → Nat} {z t : Rat} (hl : b.Least z t) (hp : b.Inl p z t) : 0 < b.Kh p := by
 obtain ⟨d,h1,h2⟩ := sE hp
 have h3 := F_at h hp.c
 have h4 := F_at h (h2 d (by grind) Rat.le_refl).c
 have h5 := hl.2 (z - d) (by grind)
 rw [h4] at h5
 rw [hl.1] at h3
 have h6 : 0 < b.Kh p * d := by grind
 have h7 : 0 ≤ b.Kh p := fX fun i hi => AK h hp.c hi
 by_cases h8 : b.Kh p = 0
 ·rw [h8] at h6;grind
 ·grind
theorem Least.uniq {z z' t : Rat} (h1 : b.Least z t) (h2 : b.Least z' t) : z = z' := by
 rcases Classical.em (z < z') with hc | hc
 ·have := h2.2 z hc;rw [h1.1] at this;grind
 ·rcases Classical.em (z' < z) with hd | hd
  ·have := h1.2 z' hd;rw [h2.1] at this;grind
  ·grind
def ln (b : Bd) (p : Nat → Nat) (t : Rat) : Rat := (b.w - b.Fo p - b.Kc p * t) / b.Kh p
theorem ln_at (h : b.Ok) {p : Nat → Nat} {z t : Rat} (hF : b.F z t = b.w) (hp : b.Inc p z t) (hK : 0 < b.Kh p) : z = b.ln p t := by
 have h1 := F_at h hp
 rw [hF] at h1
 have hne : b.Kh p ≠ 0 := by grind
 rw [ln];grind
end Bd
structure CR where
 S : List Int
 M : List RR
structure SR where
 x : Int
 c : RR
 k : CR
structure BR where
 w : Int
 a : RR
 l : List SR
def eN (z : Int) : List PV := [I z]
def eC (c : CR) : List PV := [.sl (c.S.map eN),.sl (c.M.map eR)]
def eS (s : SR) : List PV := I s.x :: (eR s.c ++ eC s.k)
def eB (b : BR) : List PV := I b.w :: (eR b.a ++ [.sl (b.l.map eS)])
def RR.sz (x : RR) (n : Nat) : Prop := x.n.l.length ≤ n ∧ x.d.l.length ≤ n
theorem RR.sz.v {x : RR} {n : Nat} (h : x.sz n) : Vq x x.val n := Vq.raw h.1 h.2
def i64 (z : Int) : Prop := -9223372036854775808 ≤ z ∧ z ≤ 9223372036854775807
structure CR.Lim (c : CR) : Prop where
 s : ∀ z ∈ c.S,i64 z
 m : ∀ x ∈ c.M,x.sz 12
 ls : c.S.length ≤ 1000000000
 lm : c.M.length ≤ 1000000000
theorem d9 (p : Rat) : sgn p < 0 ↔ p < 0 := by unfold sgn;split <;> (try split) <;> simp_all <;> omega
theorem jp (p : Rat) : sgn p = 0 ↔ p = 0 := by
 unfold sgn
 split
 ·rename_i h;constructor
  ·intro h1;omega
  ·intro h1;subst h1;grind
 ·split <;> simp_all
theorem fW (p : Rat) : 0 < sgn p ↔ 0 < p := by
 unfold sgn
 split
 ·rename_i h;constructor
  ·intro h1;omega
  ·intro h1;grind
 ·rename_i h;split
  ·rename_i h1;subst h1;simp
  ·constructor
   ·intro _;grind
   ·intro _;omega
theorem vZ (p : Rat) : 0 ≤ sgn p ↔ 0 ≤ p := by
 have h1 := d9 p
 constructor
 ·intro h;have : ¬ p < 0 := fun h2 => by have := h1.2 h2;omega
  grind
 ·intro h;have : ¬ sgn p < 0 := fun h2 => by have := h1.1 h2;grind
  omega
theorem v8 (p : Rat) : sgn p ≤ 0 ↔ p ≤ 0 := by
 have h1 := fW p
 constructor
 ·intro h;have : ¬ 0 < p := fun h2 => by have := h1.2 h2;omega
  grind
 ·intro h;have : ¬ 0 < sgn p := fun h2 => by have := h1.1 h2;grind
  omega
def cd (c : CR) (i : Nat) : Int :=
 if c.S.getD i 0 < -10000000 ∨ 10000000 < c.S.getD i 0 ∨ (c.M.getD i RR.zero).val < 0 then 2
 else if 0 < i ∧ c.S.getD i 0 ≤ c.S.getD (i - 1) 0 then 10 else 0
def bP (c : CR) : Nat → Nat → Int
 |_,0 => 0
 |i,k + 1 => if cd c i = 0 then bP c (i + 1) k else cd c i
def bp (c : CR) : Int := if 40 < c.S.length then 8 else if c.M.length ≠ c.S.length then 11 else bP c 0 c.S.length
theorem aW {α : Type} {l : List α} {i : Nat} {d : α} (h : i < l.length) : l[i]? = some (l.getD i d) := by
 rw [List.getD_eq_getElem?_getD,List.getElem?_eq_getElem h];rfl
set_option maxRecDepth 20000 in
theorem cY (c : CR) (hc : c.Lim) : Ret Tryz.prog .shared 78 [.agg (eC c)] (I (bp c)) := by
 obtain ⟨S,M⟩ := c
 obtain ⟨hs,hm,hls,hlm⟩ := hc
 simp only at hs hm hls hlm
 have hSl : (S.map eN).length = S.length := by simp
 have hMl : (M.map eR).length = M.length := by simp
 generalize hE : bp ⟨S,M⟩ = E
 simp only [bp] at hE
 show Ret Tryz.prog .shared 78 [.agg [.sl (S.map eN),.sl (M.map eR)]] (I E)
 refine Ret.of_pwp layOk mixed Go.Proofs.Tryz.func78 rfl (by decide) rfl rfl ?_
 repeat refine ac rfl ?_
 refine ae rfl ?_ ?_<;>intro h
 ·have h1 := of_decide_eq_true h
  rw [if_pos (by omega)] at hE
  subst hE
  repeat refine ac rfl ?_
  exact aO rfl rfl rfl
 have h40 : ¬ 40 < S.length := by have h1 := of_decide_eq_false h;omega
 rw [if_neg h40] at hE
 clear h
 repeat refine ac rfl ?_
 refine ae rfl ?_ ?_<;>intro h
 ·have h1 : M.length ≠ S.length := by simp at h;omega
  rw [if_pos h1] at hE
  subst hE
  repeat refine ac rfl ?_
  exact aO rfl rfl rfl
 have hSM : M.length = S.length := by simp at h;omega
 rw [if_neg (by omega)] at hE
 clear h
 repeat refine ac rfl ?_
 refine ax (fun i : Nat => i ≤ S.length ∧ bP ⟨S,M⟩ i (S.length - i) = E) (fun i => [(17,.sl (S.map eN)),(18,I S.length),(19,I (i : Nat)),(1,.ptr 1 1 0 0)]) (fun _ => [(1,1,⟨120,2,[[.sl (S.map eN),.sl (M.map eR)]],2⟩)]) (fun i => S.length - i) 0 ⟨Nat.zero_le _,hE⟩ ⟨rfl,by rw [← hSl];rfl,rfl,rfl,rfl,trivial⟩ ?_
 intro i s ⟨hi,hF⟩
 repeat refine ac rfl ?_
 refine ae rfl ?_ ?_<;>intro h
 ·have hlt : i < S.length := by have := of_decide_eq_true h;omega
  clear h
  obtain ⟨k,hk⟩ : ∃ k,S.length - i = k + 1 := ⟨S.length - i - 1,by omega⟩
  rw [hk,bP] at hF
  have hx := aW (d := 0) hlt
  have hmx := aW (l := M) (i := i) (d := RR.zero) (by omega)
  have hse : cd ⟨S,M⟩ i = cd ⟨S,M⟩ i := rfl
  conv at hse => rhs;rw [cd]
  simp only at hse
  generalize cd ⟨S,M⟩ i = se at *
  have hxb := hs _ (List.mem_of_getElem? hx)
  have hmv := (hm _ (List.mem_of_getElem? hmx)).v
  have hsg := yN (M.getD i RR.zero) (hx := hmv) (by decide)
  have hsl := d9 (M.getD i RR.zero).val
  generalize hx0 : S.getD i 0 = x at *
  generalize M.getD i RR.zero = m at *
  generalize sgn m.val = sg at *
  repeat refine ac rfl ?_
  refine bm rfl rfl rfl rfl rfl rfl rfl hx rfl ?_
  repeat refine ac rfl ?_
  refine cb rfl rfl rfl ?_ ?_<;>intro h
  ·have h1 := of_decide_eq_true h
   clear h
   have hS2 : se = 2 := by rw [hse,if_pos (.inl h1)]
   rw [hS2,if_neg (by decide)] at hF
   subst hF
   repeat refine ac rfl ?_
   exact aO rfl rfl rfl
  ·have h1 := of_decide_eq_false h
   clear h
   repeat refine ac rfl ?_
   refine cb rfl rfl rfl ?_ ?_<;>intro h
   ·have h2 := of_decide_eq_true h
    clear h
    have hS2 : se = 2 := by rw [hse,if_pos (.inr (.inl h2))]
    rw [hS2,if_neg (by decide)] at hF
    subst hF
    repeat refine ac rfl ?_
    exact aO rfl rfl rfl
   ·have h2 := of_decide_eq_false h
    clear h
    repeat refine ac rfl ?_
    refine bm rfl rfl rfl rfl rfl rfl rfl hmx rfl ?_
    repeat refine ac rfl ?_
    refine aT rfl rfl rfl hsg rfl rfl rfl ?_
    repeat refine ac rfl ?_
    refine ae rfl ?_ ?_<;>intro h
    ·have h3 := of_decide_eq_true h
     clear h
     have hS2 : se = 2 := by rw [hse,if_pos (.inr (.inr (hsl.1 h3)))]
     rw [hS2,if_neg (by decide)] at hF
     subst hF
     repeat refine ac rfl ?_
     exact aO rfl rfl rfl
    ·have h3 := of_decide_eq_false h
     clear h
     rw [if_neg (by rw [← hsl];omega)] at hse
     repeat refine ac rfl ?_
     refine cb rfl rfl rfl ?_ ?_<;>intro h
     ·have h4 := of_decide_eq_true h
      clear h
      obtain ⟨j,rfl⟩ : ∃ j,i = j + 1 := ⟨i - 1,by omega⟩
      have hw1 : IntKind.i64.wrap (((j + 1 : Nat) : Int) - 1) = ((j : Nat) : Int) := by rw [wrap_i64 (by omega) (by omega)];omega
      have hy := aW (l := S) (i := j) (d := 0) (by omega)
      rw [show j + 1 - 1 = j by omega] at hse
      generalize S.getD j 0 = y at *
      repeat refine ac rfl ?_
      rw [hw1]
      refine bm rfl rfl rfl rfl rfl rfl rfl hy rfl ?_
      repeat refine ac rfl ?_
      refine ae rfl ?_ ?_<;>intro h
      ·have h5 := of_decide_eq_true h
       clear h
       have hS2 : se = 10 := by rw [hse,if_pos ⟨by omega,h5⟩]
       rw [hS2,if_neg (by decide)] at hF
       subst hF
       repeat refine ac rfl ?_
       exact aO rfl rfl rfl
      ·have h5 := of_decide_eq_false h
       clear h
       have hS2 : se = 0 := by rw [hse,if_neg (fun h => h5 h.2)]
       rw [if_pos hS2] at hF
       have hw : IntKind.i64.wrap (((j + 1 : Nat) : Int) + 1) = ((j + 1 + 1 : Nat) : Int) := by rw [wrap_i64 (by omega) (by omega)];omega
       repeat refine ac rfl ?_
       exact ⟨j + 1 + 1,⟨by omega,by rw [show S.length - (j + 1 + 1) = k by omega];exact hF⟩,by omega,rfl,rfl,congrArg I hw,rfl,rfl,trivial⟩
     ·have h4 := of_decide_eq_false h
      clear h
      have hS2 : se = 0 := by rw [hse,if_neg (fun h => h4 (by omega))]
      rw [if_pos hS2] at hF
      have hw := f7 i
      repeat refine ac rfl ?_
      exact ⟨i + 1,⟨by omega,by rw [show S.length - (i + 1) = k by omega];exact hF⟩,by omega,rfl,rfl,congrArg I hw,rfl,rfl,trivial⟩
 ·have hie : i = S.length := by have := of_decide_eq_false h;omega
  rw [hie,Nat.sub_self,bP] at hF
  subst hF
  repeat refine ac rfl ?_
  exact aO rfl rfl rfl
end Go.Pv
namespace Go.Pv
open Go.RowKit
variable [Globs]
def l5 : List (Tmp × PV) → (Nat → PV) → Nat → PV
 |[],f => f
 |(p,v) :: l,f => l5 l fun r => bif Nat.beq r p then v else f r
theorem l6 {E : Env} : ∀ (ps : List Tmp) (cs : List PV) (vs : List Value) (f : Nat → PV) (tmps : Array Value),ps.length = cs.length → cs.length = vs.length → (∀ p ∈ ps,p < tmps.size) → (∀ t,Rep E (f t) (tmps.getD t undef)) →
  (∀ (i : Nat) (c : PV) (v : Value),cs[i]? = some c → vs[i]? = some v → Rep E c v) →
  ((ps.zip vs).foldl (fun t q => t.setIfInBounds q.1 q.2) tmps).size = tmps.size ∧ ∀ t,Rep E (l5 (ps.zip cs) f t) (((ps.zip vs).foldl (fun t q => t.setIfInBounds q.1 q.2) tmps).getD t undef)
 |[],[],[],f,tmps,_,_,_,hf,_ => ⟨rfl,hf⟩
 |p :: ps,c :: cs,v :: vs,f,tmps,h1,h2,hp,hf,hd => by
  have hp0 : p < tmps.size := hp p (.head _)
  have ih := l6 ps cs vs (fun r => bif Nat.beq r p then c else f r) (tmps.setIfInBounds p v) (by simpa using h1) (by simpa using h2) (fun q hq => by simpa using hp q (.tail _ hq)) (fun t => by
   by_cases ht : t = p
   ·subst ht
    have e1 : (tmps.setIfInBounds t v).getD t undef = v := by simp [hp0]
    rw [e1]
    simpa using hd 0 c v rfl rfl
   ·have e1 : (tmps.setIfInBounds p v).getD t undef = tmps.getD t undef := by simp [Array.getElem?_setIfInBounds_ne (Ne.symm ht)]
    rw [e1,aU ht]
    exact hf t) (fun i c' v' e1 e2 => hd (i + 1) c' v' (by simpa using e1) (by simpa using e2))
  refine ⟨?_,fun t => ?_⟩
  ·rw [List.zip_cons_cons,List.foldl_cons,ih.1];simp
  ·rw [List.zip_cons_cons,List.zip_cons_cons,List.foldl_cons]
   exact ih.2 t
 |[],_ :: _,_,_,_,h,_,_,_,_ => by simp at h
 |[],[],_ :: _,_,_,_,h,_,_,_ => by simp at h
 |_ :: _,[],_,_,_,h,_,_,_,_ => by simp at h
 |_ :: _,_ :: _,[],_,_,_,h,_,_,_ => by simp at h
def bD (ps : Array Tmp) (asg body : Code) (st : LoopState) (pend : Option Code) (regs : Nat → PV) : Cont := ⟨0,0,[[.lbl ps asg body st pend regs]],4⟩
def rW (s : St) (kL g : Nat) (ps : Array Tmp) (asg body : Code) (regs : Nat → PV) (d : Nat) (K : St → Prop) : Exit → St → Prop
 |.normal,s' => s'.own kL = (g,some (bD ps asg body .busy none regs)) ∧ K (({ reg := s.reg,own := (s'.setOwn kL g (some (bD ps asg body .ready none regs))).own } : St).putR d (.bool true))
 |.exit id,s' => s'.own kL = (g,some (bD ps asg body .busy none regs)) ∧ K (({ reg := s.reg,own := (s'.setOwn kL g (some (bD ps asg body .done (some (.exit id)) regs))).own } : St).putR d (.bool false))
 |.ret,s' => s'.own kL = (g,some (bD ps asg body .busy none regs)) ∧ K (({ reg := s.reg,own := (s'.setOwn kL g (some (bD ps asg body .done (some .ret) regs))).own } : St).putR d (.bool false))
 |_,_ => False
def i8 (s : St) (kL g : Nat) (ps : Array Tmp) (asg body : Code) (Q : Exit → St → Prop) : Exit → St → Prop
 |.normal,s' | .ret,s' => (s'.own kL = (g,some (bD ps asg body .ready none s.reg)) ∧ Q .normal { reg := s.reg,own := (s'.setOwn kL (g + 1) none).own }) ∨
   (∃ id,s'.own kL = (g,some (bD ps asg body .done (some (.exit id)) s.reg)) ∧ Q (.exit id) { reg := s.reg,own := (s'.setOwn kL (g + 1) none).own }) ∨
   (s'.own kL = (g,some (bD ps asg body .done (some .ret) s.reg)) ∧ Q .ret { reg := s.reg,own := (s'.setOwn kL (g + 1) none).own })
 |_,_ => False
section
variable {P : Program} {L : Lay} {C : Ctx} {γ : Nat → Option Nat} {s : St} {a : Act} {w : World}
theorem Sim.yl_at (_h : Sim C γ s a w) {k g : Nat} {c : Cont} {v : Value} (hr : Rep (ah C γ s w) (.yl k g) v) (ho : s.own k = (g,some c)) : ∃ b,γ k = some b ∧ v = .func (.yield b) #[] #[] := by
 cases hr with
 |d h => cases h
 |yl hg hl => exact (hl (by simp [ah,ho]) ⟨γ k,c.ty,c.sz,c.rows.length⟩ (by simp [ah,ho])).2
theorem Sim.turnLoop {s' : St} {a' : Act} {w3 : World} {C2 : Ctx} {γ' : Nat → Option Nat} (hs' : Sim C2 γ' s' a' w3) {kL g b : Nat} {ps : Array Tmp} {asg body : Code} {regs : Nat → PV} {st : LoopState} {pend : Option Code} (ho : s'.own kL = (g,some (bD ps asg body st pend regs))) (hb : γ' kL = some b) :
  ∃ rec : Loop,w3.heap[b]? = some (.loop rec) ∧ rec.state = st ∧ rec.pending = pend ∧ ∀ (st2 : LoopState) (pend2 : Option Code),Sim C2 γ' (s'.setOwn kL g (some (bD ps asg body st2 pend2 regs))) a' (w3.putObj b (.loop { rec with state := st2,pending := pend2 })) := by
 have hit := (hs'.sites kL _ (by rw [ho])).it b hb rfl (show (3:Nat) ≤ 4 by decide)
 obtain ⟨rec,regs',h1,h2,h3',h3,h4,h5⟩ : ke (ah C2 γ' s' w3) b (bD ps asg body st pend regs).rows := hit
 have h1 : w3.heap[b]? = some (.loop rec) := h1
 simp only [bD,List.cons.injEq,PV.lbl.injEq,and_true] at h2
 obtain ⟨e1,e2,e3,e4,e5,e6⟩ := h2
 subst e6
 refine ⟨rec,h1,e4.symm,e5.symm,fun st2 pend2 => ?_⟩
 obtain ⟨hp,hnew⟩ := el (o' := .loop { rec with state := st2,pending := pend2 }) h1
 have hnc : ∀ cur T f,w3.heap[b]? ≠ some (.cells cur T f) := fun cur T f e => by rw [h1] at e;cases e
 have hle := fV (c' := bD ps asg body st2 pend2 regs) hs' ho hb hnc hp rfl rfl (Nat.le_refl _)
 refine eo hs' ho hb hnc hp rfl rfl (Nat.le_refl _) ⟨(fun e => by cases e),(fun b' _ _ hk => by simp [bD] at hk),fun b' hb' _ _ => ?_,(fun b' _ hz => by simp [bD] at hz)⟩
 cases hb'
 show ke _ _ _
 exact ⟨{ rec with state := st2,pending := pend2 },regs,hnew,by simp [bD,← e1,← e2,← e3],h3',h3,h4,fun t => (h5 t).mono hle⟩
theorem wg {o : Oper} {args : Array Operand} {tys : Array TypeId} {tf d kL g : Nat} {ps : Array Tmp} {asg body : Code} {regs : Nat → PV} {K : St → Prop} (ho : o.op = .call ⟨.value (.tmp tf),args,tys⟩) (hd : o.dst = some d) (hy : s.reg tf = .yl kL g)
  (hown : s.own kL = (g,some (bD ps asg body .ready none regs))) (hps : args.size = ps.size)
  (h : PWP P L asg (aC (fun s2 => s2.own kL = (g,some (bD ps asg body .ready none regs)) ∧ PWP P L body (rW s kL g ps asg body regs d K) { reg := s2.reg,own := (s2.setOwn kL g (some (bD ps asg body .busy none regs))).own }) (fun _ _ => False)) { reg := l5 (ps.toList.zip (args.toList.map s.ev)) regs,own := s.own }) : AF P L s o K := by
 intro ro n C a w Q hG ⟨γ,hs⟩ hN hQ
 have hyr := hs.ev (.tmp tf)
 rw [show s.ev (.tmp tf) = .yl kL g from hy] at hyr
 obtain ⟨b,hb,hv⟩ := hs.yl_at hyr hown
 have hit := (hs.sites kL _ (by rw [hown])).it b hb rfl (show (3:Nat) ≤ 4 by decide)
 obtain ⟨rec,regs',h1,h2,h3',h3,h4,h5⟩ : ke (ah C γ s w) b (bD ps asg body .ready none regs).rows := hit
 have h1 : w.heap[b]? = some (.loop rec) := h1
 simp only [bD,List.cons.injEq,PV.lbl.injEq,and_true] at h2
 obtain ⟨e1,e2,e3,e4,e5,e6⟩ := h2
 subst e6
 refine ⟨fun _ _ => trivial,?_⟩
 have hexec : (o.semAt (Fr ro).round a.eval).run P w = .ok (.round b rec.fn ((rec.params.zip (args.map a.eval)).foldl (fun tmps (t,a) => tmps.setIfInBounds t a) rec.tmps) rec.assign rec.body) w := by
  rw [Oper.semAt_eq _ _ _ (fun c e => by rw [ho] at e;cases e)]
  simp only [execOp,ho,resolve,hv,Deferred.ofValue,Sem.run_bind,Sem.run_pure,Result.andThen_ok,invoke]
  rw [show (#[] ++ args.map a.eval : Array Value) = args.map a.eval by simp]
  exact run_yield h1 (by rw [← e1];simpa using hps)
 rw [hexec,Oper.uponIn_round]
 refine ⟨fun e => by simp [Fr,Fence.wide] at e,?_⟩
 refine roundIn_of_wpIn trivial ?_
 rw [← e2,← e3]
 rw [← e2] at h3'
 rw [← e3] at h3
 let C2 : Ctx := ⟨C.B,C.X,C.w0,rec.tmps.size,fun c v => C.keep c v ∨ ∃ t,c = s.reg t ∧ v = a.tmps.getD t undef,[]⟩
 have hG2 : Good P L C2 := ⟨hG.lay,hG.x,hG.mixed,hG.glob⟩
 have hfold : (rec.params.zip (args.map a.eval)).foldl (fun tmps (t,a) => tmps.setIfInBounds t a) rec.tmps = (ps.toList.zip (args.toList.map a.eval)).foldl (fun t q => t.setIfInBounds q.1 q.2) rec.tmps := by
  rw [← e1,← Array.foldl_toList,Array.toList_zip,Array.toList_map]
 obtain ⟨b1,b2⟩ := l6 (E := ah C γ s w) ps.toList (args.toList.map s.ev) (args.toList.map a.eval) regs rec.tmps (by simpa using hps.symm) (by simp)
  (fun p hp => by rw [e1] at hp;simpa using List.all_eq_true.1 h4 p hp) (fun t => h5 t) (fun i c v q1 q2 => by
   rw [List.getElem?_map] at q1 q2
   cases hx : args.toList[i]? with
   |none => rw [hx] at q1;simp at q1
   |some x => rw [hx] at q1 q2;simp at q1 q2;subst q1;subst q2;exact hs.ev x)
 rw [hfold]
 have hsim2 : SimE C2 { reg := l5 (ps.toList.zip (args.toList.map s.ev)) regs,own := s.own } { tmps := (ps.toList.zip (args.toList.map a.eval)).foldl (fun t q => t.setIfInBounds q.1 q.2) rec.tmps,defers := [] } w := by
  refine ⟨γ,rfl,b1,b2,hs.sites,hs.inj,hs.base,hs.below,hs.top,?_⟩
  rintro c v (hk | ⟨t,rfl,rfl⟩)
  ·exact hs.kept c v hk
  ·exact hs.regs t
 rw [uF]
 refine wpIn_mono (PWP.soundX (X := fun A B => A = B) (fun _ => rfl) (fun h k => h.trans k) (fun h => by subst h;exact .refl _) (r := false) (fun h => by cases h) asg _ C2 _ _ _ hG2 h3' (fun _ hq => hq) hsim2 h) ?_
 rintro e aA wA ⟨C',sA,rfl,⟨γA,hsA⟩,hq⟩
 have he : e = .normal := by
  cases e
  case normal => rfl
  all_goals exact absurd hq id
 subst he
 obtain ⟨hownA,hbodyA⟩ := hq
 show ∃ w₂,_
 have hkyA := hsA.kept (.yl kL g) (.func (.yield b) #[] #[]) (.inr ⟨tf,hy.symm,hv.symm⟩)
 obtain ⟨bA,hbA,hvA⟩ := hsA.yl_at hkyA hownA
 have hbb : b = bA := by injection hvA with q;injection q with q
 subst hbb
 obtain ⟨rec2,r1,r2,r3,r4⟩ := hsA.turnLoop hownA hbA
 have hs1 := r4 .busy none
 have hw2 : wA.putObj b (.loop { rec2 with state := .busy,pending := none }) = wA.putObj b (.loop { rec2 with state := .busy }) := by
  have : ({ rec2 with state := .busy,pending := none } : Loop) = { rec2 with state := .busy } := by rw [← r3]
  rw [this]
 rw [hw2] at hs1
 refine ⟨_,run_beginRound r1 r2,?_⟩
 have hsimB : SimE C2 { reg := sA.reg,own := (sA.setOwn kL g (some (bD ps asg body .busy none regs))).own } aA (wA.putObj b (.loop { rec2 with state := .busy })) := ⟨γA,hs1⟩
 refine wpIn_mono (PWP.soundX (X := fun A B => A = B) (fun _ => rfl) (fun h k => h.trans k) (fun h => by subst h;exact .refl _) (r := false) (fun h => by cases h) body _ C2 _ _ _ hG2 h3 (fun _ hq => hq) hsimB hbodyA) ?_
 have fin : ∀ {s' : St} {a' : Act} {w3 : World} (jump : Option Code) (st : LoopState),st = (if jump.isNone then .ready else .done) → SimE C2 s' a' w3 → s'.own kL = (g,some (bD ps asg body .busy none regs)) →
   K (({ reg := s.reg,own := (s'.setOwn kL g (some (bD ps asg body st jump regs))).own } : St).putR d (.bool jump.isNone)) →
   ∃ v w4,(Instr.endRound b jump).run P w3 = .ok v w4 ∧ ∃ s'',SimE C s'' (a.put o.dst v) w4 ∧ K s'' := by
  rintro s' a' w3 jump st rfl ⟨γ',hs'⟩ hown' hk
  have hky := hs'.kept (.yl kL g) (.func (.yield b) #[] #[]) (.inr ⟨tf,hy.symm,hv.symm⟩)
  obtain ⟨b',hb',hvb⟩ := hs'.yl_at hky hown'
  have hbb : b' = b := by injection hvb with q;injection q with q;exact q.symm
  subst hbb
  obtain ⟨rec3,q1,q2,q3,q4⟩ := hs'.turnLoop hown' hb'
  have hs4 := q4 (if jump.isNone then .ready else .done) jump
  refine ⟨_,_,run_endRound jump q1,_,⟨γ',?_⟩,hk⟩
  have hback : Sim C γ' { reg := s.reg,own := (s'.setOwn kL g (some (bD ps asg body (if jump.isNone then .ready else .done) jump regs))).own } a (w3.putObj b' (.loop { rec3 with state := if jump.isNone then .ready else .done,pending := jump })) :=
   ⟨hs.defers,hs.size,fun r => hs4.kept _ _ (.inr ⟨r,rfl,rfl⟩),hs4.sites,hs4.inj,hs4.base,hs4.below,hs4.top,fun c v hk => hs4.kept c v (.inl hk)⟩
  rw [hd]
  rw [hd] at hN
  exact hback.put (d := some d) hN (.d (.bool _))
 rintro e a' w3 ⟨C',s',rfl,h',hq⟩
 cases e
 case normal => exact fin none .ready rfl h' hq.1 hq.2
 case ret => exact fin (some .ret) .done rfl h' hq.1 hq.2
 case exit id => exact fin (some (.exit id)) .done rfl h' hq.1 hq.2
 all_goals exact hq.elim
theorem o9 {Q : Exit → St → Prop} {g : Operand} {ps : Array Tmp} {assign body : Code} (h : pF P L g ps assign body Q s) : PWP P L (.rangeFunc g ps assign body) Q s := Gh.of h
theorem mE {Q : Exit → St → Prop} {g : Operand} {gf : FuncId} {caps : List PV} {fn : Func} {bodyI : Code} {ps : Array Tmp} {asg body : Code} (kL : Nat) {gn : Nat} {oc : Option Cont} (hg : s.ev g = .clo gf caps) (hf : P.funcs[gf]? = some fn) (hb : fn.body = some bodyI)
  (hn : (fn.name == "runtime.NumGoroutine") = false) (hlen : Nat.ble (1 + caps.length) fn.ntmps = true) (hc : gQ fn.ntmps bodyI = true) (hres : fn.results = #[]) (hown : s.own kL = (gn, oc))
  (h : PWP P L bodyI (i8 s kL (gn + 1) ps asg body Q) { reg := fun t => ((.yl kL (gn + 1)) :: caps).getD t (.raw undef),own := (s.setOwn kL (gn + 1) (some (bD ps asg body .ready none s.reg))).own }) : pF P L g ps asg body Q s := by
 intro n C a w hG ⟨γ,hs⟩ hcode hQ
 simp only [dG,Bool.true_and,Bool.and_eq_true] at hcode
 obtain ⟨⟨hpsN,hasg⟩,hbody⟩ := hcode
 refine wpIn_rangeFunc fun fnid _ => ?_
 have hge := hs.ev g
 rw [hg] at hge
 obtain ⟨vs,hv,hl,hd⟩ := hge.clo_inv
 have hcal : cX P gf := ⟨fn,hf,hn,by simp [hb]⟩
 obtain ⟨rec,hrec⟩ : ∃ rec : Loop,rec = { state := .ready,pending := none,fn := fnid,tmps := a.tmps,params := ps,assign := asg,body := body,defers := w.heap.size } := ⟨_,rfl⟩
 refine ⟨w.heap.size + 1,[pX w.heap.size],(w.alloc (.deferred (some []))).alloc (.loop rec),{ target := .fn (.func gf) vs.toArray,args := #[.func (.yield (w.heap.size + 1)) #[] #[]] },(w.alloc (.deferred (some []))).alloc (.loop rec),gf,
  #[Value.func (.yield (w.heap.size + 1)) #[] #[]] ++ vs.toArray,(w.alloc (.deferred (some []))).alloc (.loop rec),by rw [hrec];exact run_enterLoop_outer _ _ _ _ _,?_,fun _ _ => trivial,?_,fun e => by simp [Fr,Fence.wide] at e,?_⟩
 ·simp only [resolve,hv]
  simp [go_sem]
 ·simp only [invoke]
  exact iT hcal _
 refine callsIn_of_wp hf hb trivial ?_
 have hbel : Below w.heap.size w (w.alloc (.deferred (some []))) := (Below.refl _ w).alloc (Nat.le_refl _) _
 have hD := hs.ext hbel
 have hsz : (w.alloc (.deferred (some []))).heap.size = w.heap.size + 1 := by simp
 have hT : Turn C γ s (w.alloc (.deferred (some []))) ((w.alloc (.deferred (some []))).alloc (.loop rec)) kL (some (w.alloc (.deferred (some []))).heap.size) := Turn.alloc _ kL
 have hle := hT.le hD (bD ps asg body .ready none s.reg)
 have hfin : s.fin kL (bD ps asg body .ready none s.reg) = s.setOwn kL (gn + 1) (some (bD ps asg body .ready none s.reg)) := by rw [St.fin,hown]
 have hs1 := hT.sim (c := bD ps asg body .ready none s.reg) hD ⟨(fun e => by cases e),(fun b' _ _ hk => by simp [bD] at hk),fun b' hb' _ _ => by
  cases hb'
  show ke _ _ _
  refine ⟨rec,s.reg,aX _ _,by rw [hrec];rfl,by rw [hrec];simpa [hs.size] using hasg,by rw [hrec];simpa [hs.size] using hbody,by rw [hrec];simpa [hs.size] using hpsN,fun t => ?_⟩
  rw [show rec.tmps = a.tmps by rw [hrec]];exact (hD.regs t).mono hle,(fun b' _ hz => by simp [bD] at hz)⟩
 rw [hfin,hsz] at hs1
 rw [hfin,hsz] at hle
 have hDobj : ((w.alloc (.deferred (some []))).alloc (.loop rec)).heap[w.heap.size]? = some (.deferred (some [])) := by
  rw [Below.heap_alloc _ _ _ (by simp)]
  exact aX w _
 have hDok : cV C (fc γ kL (some (w.heap.size + 1))) (s.setOwn kL (gn + 1) (some (bD ps asg body .ready none s.reg))) ((w.alloc (.deferred (some []))).alloc (.loop rec)) w.heap.size := by
  refine ⟨by simp;omega,fun hx => ?_,fun k c hk hb' => ?_⟩
  ·have := hG.x _ hx;have := hs.top;omega
  ·by_cases hkk : k = kL
   ·subst hkk
    rw [bk] at hb'
    injection hb' with q;omega
   ·rw [ar hkk] at hk
    rw [dF hkk] at hb'
    have := (hs.base k c _ hk hb').2;omega
 let C1 : Ctx := ⟨C.B,C.X,C.w0,fn.ntmps,fun c v => C.keep c v ∨ (∃ t,c = s.reg t ∧ v = a.tmps.getD t undef) ∨ (c = .dfd ∧ v = .pointer (some ⟨w.heap.size,0,none⟩)) ∨ (c = .yl kL (gn + 1) ∧ v = .func (.yield (w.heap.size + 1)) #[] #[]),[]⟩
 have hG1 : Good P L C1 := ⟨hG.lay,hG.x,hG.mixed,hG.glob⟩
 have hyl : Rep (ah C (fc γ kL (some (w.heap.size + 1))) (s.setOwn kL (gn + 1) (some (bD ps asg body .ready none s.reg))) ((w.alloc (.deferred (some []))).alloc (.loop rec))) (.yl kL (gn + 1)) (.func (.yield (w.heap.size + 1)) #[] #[]) := by
  refine .yl (by simp [ah,ag]) fun _ l hl => ?_
  simp only [ah,ag,bk,Option.map_some,Option.some.injEq] at hl
  subst hl
  exact ⟨rfl,_,rfl,rfl⟩
 have hlen' : 1 + vs.length ≤ fn.ntmps := by rw [← hl];simpa using hlen
 have hargs : ∀ t,Rep (ah C (fc γ kL (some (w.heap.size + 1))) (s.setOwn kL (gn + 1) (some (bD ps asg body .ready none s.reg))) ((w.alloc (.deferred (some []))).alloc (.loop rec))) (((.yl kL (gn + 1)) :: caps).getD t (.raw undef))
   ((#[Value.func (.yield (w.heap.size + 1)) #[] #[]] ++ vs.toArray ++ Array.replicate (fn.ntmps - (#[Value.func (.yield (w.heap.size + 1)) #[] #[]] ++ vs.toArray).size) undef).getD t undef) := by
  intro t
  cases t with
  |zero =>
   have e2 : (#[Value.func (.yield (w.heap.size + 1)) #[] #[]] ++ vs.toArray ++ Array.replicate (fn.ntmps - (#[Value.func (.yield (w.heap.size + 1)) #[] #[]] ++ vs.toArray).size) undef).getD 0 undef = Value.func (.yield (w.heap.size + 1)) #[] #[] := by
    simp [Array.getElem?_append]
   rw [e2];exact hyl
  |succ t =>
   rcases Nat.lt_or_ge t vs.length with hlt | hge
   ·have hlt' : t < caps.length := by omega
    have e1 : ((PV.yl kL (gn + 1)) :: caps).getD (t + 1) (.raw undef) = caps[t] := by simp [hlt']
    have e2 : (#[Value.func (.yield (w.heap.size + 1)) #[] #[]] ++ vs.toArray ++ Array.replicate (fn.ntmps - (#[Value.func (.yield (w.heap.size + 1)) #[] #[]] ++ vs.toArray).size) undef).getD (t + 1) undef = vs[t] := by
     rw [Array.getD_eq_getD_getElem?,Array.getElem?_append_left (by simp;omega),Array.getElem?_append_right (by simp)]
     simp [hlt]
    rw [e1,e2]
    exact (hd t caps[t] vs[t] (List.getElem?_eq_getElem hlt') (List.getElem?_eq_getElem hlt)).mono ((eO hbel hs.base).trans' hle)
   ·have e1 : ((PV.yl kL (gn + 1)) :: caps).getD (t + 1) (.raw undef) = .raw undef := by simp [List.getElem?_eq_none (by omega : caps.length ≤ t)]
    have e2 : (#[Value.func (.yield (w.heap.size + 1)) #[] #[]] ++ vs.toArray ++ Array.replicate (fn.ntmps - (#[Value.func (.yield (w.heap.size + 1)) #[] #[]] ++ vs.toArray).size) undef).getD (t + 1) undef = undef := by
     rw [Array.getD_eq_getD_getElem?,Array.getElem?_append_right (by simp;omega)]
     rcases Nat.lt_or_ge (t + 1 - (#[Value.func (.yield (w.heap.size + 1)) #[] #[]] ++ vs.toArray).size) (fn.ntmps - (#[Value.func (.yield (w.heap.size + 1)) #[] #[]] ++ vs.toArray).size) with h1 | h1
     ·rw [Array.getElem?_replicate,if_pos h1];rfl
     ·rw [Array.getElem?_eq_none (by simpa using h1)];rfl
    rw [e1,e2]
    exact .d (.raw _)
 have hsim : SimE C1 { reg := fun t => ((.yl kL (gn + 1)) :: caps).getD t (.raw undef),own := (s.setOwn kL (gn + 1) (some (bD ps asg body .ready none s.reg))).own }
   { tmps := #[Value.func (.yield (w.heap.size + 1)) #[] #[]] ++ vs.toArray ++ Array.replicate (fn.ntmps - (#[Value.func (.yield (w.heap.size + 1)) #[] #[]] ++ vs.toArray).size) undef,defers := [] } ((w.alloc (.deferred (some []))).alloc (.loop rec)) := by
  refine ⟨fc γ kL (some (w.heap.size + 1)),rfl,by simp [C1];omega,hargs,hs1.sites,hs1.inj,hs1.base,hs1.below,hs1.top,?_⟩
  rintro c v (hk | ⟨t,rfl,rfl⟩ | ⟨rfl,rfl⟩ | ⟨rfl,rfl⟩)
  ·exact hs1.kept c v hk
  ·exact hs1.regs t
  ·exact .dfd hDok hDobj
  ·exact hyl
 refine wpIn_mono (PWP.soundX (X := fun A B => A = B) (fun _ => rfl) (fun h k => h.trans k) (fun h => by subst h;exact .refl _) (r := false) (fun h => by cases h) bodyI _ C1 _ _ _ hG1 hc (fun _ hq => hq) hsim h) ?_
 have fin : ∀ {s' : St} {a' : Act} {w3 : World} (pend : Option Code) (st : LoopState),st ≠ .busy → SimE C1 s' a' w3 → s'.own kL = (gn + 1,some (bD ps asg body st pend s.reg)) →
   ∃ w4,(Instr.endLoop (w.heap.size + 1)).run P w3 = .ok pend w4 ∧ ∃ C4,Ext C C4 ∧ SimE C4 { reg := s.reg,own := (s'.setOwn kL (gn + 1 + 1) none).own } { a with defers := [pX w.heap.size] ++ a.defers } w4 := by
  rintro s' a' w3 pend st hst ⟨γ',hs'⟩ hown'
  have hky := hs'.kept (.yl kL (gn + 1)) (.func (.yield (w.heap.size + 1)) #[] #[]) (.inr (.inr (.inr ⟨rfl,rfl⟩)))
  obtain ⟨b',hb',hvb⟩ := hs'.yl_at hky hown'
  have hbb : b' = w.heap.size + 1 := by injection hvb with q;injection q with q;exact q.symm
  subst hbb
  obtain ⟨rec3,q1,q2,q3,q4⟩ := hs'.turnLoop hown' hb'
  have hs4 := q4 .exhausted pend
  have hw4 : w3.putObj (w.heap.size + 1) (.loop { rec3 with state := .exhausted,pending := pend }) = w3.putObj (w.heap.size + 1) (.loop { rec3 with state := .exhausted }) := by
   have : ({ rec3 with state := .exhausted,pending := pend } : Loop) = { rec3 with state := .exhausted } := by rw [← q3]
   rw [this]
  rw [hw4] at hs4
  refine ⟨_,by rw [← q3];exact run_endLoop q1 (by rw [q2];exact hst),?_⟩
  obtain ⟨hs5,_,_⟩ := hs4.drop hG1.x (ag s' kL (gn + 1) _)
  have hoo : ((s'.setOwn kL (gn + 1) (some (bD ps asg body .exhausted pend s.reg))).setOwn kL (gn + 1 + 1) none).own = (s'.setOwn kL (gn + 1 + 1) none).own := by
   funext r
   by_cases hr : r = kL
   ·subst hr;rw [ag,ag]
   ·rw [ar hr,ar hr,ar hr]
  have key : ∀ ow,ow = (s'.setOwn kL (gn + 1 + 1) none).own → Sim C1 γ' { reg := s'.reg,own := ow } a' (w3.putObj (w.heap.size + 1) (.loop { rec3 with state := .exhausted })) →
    ∃ C4,Ext C C4 ∧ SimE C4 { reg := s.reg,own := (s'.setOwn kL (gn + 1 + 1) none).own } { a with defers := [pX w.heap.size] ++ a.defers } (w3.putObj (w.heap.size + 1) (.loop { rec3 with state := .exhausted })) := by
   rintro ow rfl hs6
   refine ⟨⟨C.B,C.X,C.w0,C.N,fun c v => C.keep c v ∨ (c = .dfd ∧ v = .pointer (some ⟨w.heap.size,0,none⟩)),w.heap.size :: C.dfs⟩,⟨rfl,rfl,rfl,rfl,fun c v hk => .inl hk,fun hdk => ⟨?_,?_⟩⟩,γ',?_,hs.size,fun r => hs6.kept _ _ (.inr (.inl ⟨r,rfl,rfl⟩)),hs6.sites,hs6.inj,hs6.base,hs6.below,hs6.top,?_⟩
   ·rw [List.nodup_cons]
    refine ⟨fun hm => ?_,hdk.1⟩
    have := hs.kept _ _ (hdk.2 _ hm).2
    cases this with
    |d hd => cases hd
    |dfd h1 _ => exact absurd h1.1 (Nat.lt_irrefl _)
   ·intro D hDm
    rcases List.mem_cons.1 hDm with rfl | hDm
    ·exact ⟨hs.top,.inr ⟨rfl,rfl⟩⟩
    ·exact ⟨(hdk.2 D hDm).1,.inl (hdk.2 D hDm).2⟩
   ·show [pX w.heap.size] ++ a.defers = _
    rw [hs.defers];rfl
   ·rintro c v (hk | ⟨rfl,rfl⟩)
    ·exact hs6.kept c v (.inl hk)
    ·exact hs6.kept _ _ (.inr (.inr (.inl ⟨rfl,rfl⟩)))
  exact key _ hoo hs5
 have ends : ∀ {s' : St} {a' : Act} {w3 : World},SimE C1 s' a' w3 → i8 s kL (gn + 1) ps asg body Q .ret s' → a'.defers = [] ∧ ∃ v,(results fn a'.tmps).run P w3 = .ok v w3 ∧
   rangePost (Fr none) n P (w.heap.size + 1) (tI Ext C Q) { a with defers := [pX w.heap.size] ++ a.defers } (.returned v) w3 := by
  intro s' a' w3 h' hq
  refine ⟨by obtain ⟨_,h'⟩ := h';exact h'.defers,.tuple #[],by simp [results,hres],?_⟩
  rcases hq with ⟨ho,hq⟩ | ⟨id,ho,hq⟩ | ⟨ho,hq⟩
  ·obtain ⟨w4,e1,C4,e2,e3⟩ := fin none .ready (by simp) h' ho
   exact ⟨none,w4,e1,C4,_,e2,e3,hq⟩
  ·obtain ⟨w4,e1,C4,e2,e3⟩ := fin (some (.exit id)) .done (by simp) h' ho
   exact ⟨some (.exit id),w4,e1,wpIn_exit ⟨C4,_,e2,e3,hq⟩⟩
  ·obtain ⟨w4,e1,C4,e2,e3⟩ := fin (some .ret) .done (by simp) h' ho
   exact ⟨some .ret,w4,e1,wpIn_ret ⟨C4,_,e2,e3,hq⟩⟩
 rintro e a' w3 ⟨C',s',rfl,h',hq⟩
 cases e
 case normal => exact ends h' hq
 case ret => exact ends h' hq
 all_goals exact hq.elim
end
end Go.Pv
set_option maxHeartbeats 2000000
namespace Go.Pv
attribute [local irreducible] PWP POps PQuiet PSem aC au aj ai
open Go.Proofs
def CR.s (c : CR) (k : Nat) : Rat := (c.S.getD k 0 : Int)
def CR.m (c : CR) (k : Nat) : Rat := (c.M.getD k RR.zero).val
def wY (c : CR) : Nat → RR
 |0 => ofQ ((0 : Int) : Rat)
 |k + 1 => c.M.getD k RR.zero
theorem oQ (c : CR) (hc : c.Lim) (k : Nat) : Vq (c.M.getD k RR.zero) (c.m k) 12 := by
 refine ⟨rfl,?_⟩
 rw [List.getD_eq_getElem?_getD]
 cases h : c.M[k]? with
 |none => exact ⟨Nat.zero_le _,Nat.zero_le _⟩
 |some x => exact hc.m x (List.mem_of_getElem? h)
theorem l0 (c : CR) (hc : c.Lim) (k : Nat) : Vq (wY c k) (bg c.m k) 12 := by
 cases k with
 |zero =>
  refine ⟨ofQ_val _,?_⟩
  have := (gE (HQ.int (z := 0) (h := ⟨by decide⟩)).ok).ok
  show (ofQ ((0 : Int) : Rat)).n.l.length ≤ 12 ∧ (ofQ ((0 : Int) : Rat)).d.l.length ≤ 12
  exact ⟨by have := this.1;omega,by have := this.2;omega⟩
 |succ k => exact oQ c hc k
theorem jP {c : CR} (hc : c.Lim) (k : Nat) : i64 (c.S.getD k 0) := by
 rw [List.getD_eq_getElem?_getD]
 cases h : c.S[k]? with
 |none => exact ⟨by decide,by decide⟩
 |some x => exact hc.s x (List.mem_of_getElem? h)
def yI (q0 q2 q3 g4 g7 b4 : Nat) (rec x2 x3 x1004 : Cont) (before sum : RR) : List (Nat × Nat × Cont) :=
 [(2000,q0,rec),(2002,q2,x2),(2003,q3,x3),(4,b4,⟨26,4,[eR before],2⟩),(1004,g4,x1004),(1007,g7,⟨26,4,[eR sum],2⟩)]
theorem gD {s : St} (k : Nat) : Ghost s (s.setOwn k ((s.own k).1 + 2) none) := Ghost.drop rfl
theorem nr {L : Lay} {fn : Func} {K : St → PV → Prop} {s : St} {t : Nat} {v : PV} (h : fn.results.toList = [.tmp t]) (h1 : s.reg t = v) (hk : K s v) : ai L fn K .ret s := by
 unfold ai
 refine ⟨[s.reg t],True ∧ True,by rw [h];rfl,⟨trivial,trivial⟩,?_⟩
 rw [h1];exact hk
theorem dJ {P : Program} {L : Lay} {x : Code} {Q : Exit → St → Prop} {s : St} (R : List (Nat × PV)) (O : List (Nat × Nat × Cont)) (hf : Fit s R O) (h : ∀ s1 : St,PWP P L x Q (s1.over R O)) : PWP P L x Q s := by
 have := h s
 rwa [Fit.over hf] at this
set_option maxRecDepth 20000 in
theorem k_ {Q : Exit → St → Prop} {a b : Nat} {asg body : Code} {sc : St} (c : CR) (hc : c.Lim) (y : RR) {q : Rat} {n : Nat} (hy : Vq y q n) (hn : n ≤ 9000000) (hSM : c.M.length = c.S.length) (V : Nat → RR) {q0 q2 q3 g4 g7 : Nat} {x1004 : Cont} (s0 : St)
  (hown : Fit s0 [] [(2000,q0,bD #[a,b] asg body .ready none sc.reg),(2002,q2,⟨120,2,[eC c],2⟩),(2003,q3,⟨26,4,[eR y],2⟩),(1004,g4,x1004),(1007,g7,⟨26,4,[eR (V 0)],2⟩)])
  (hround : ∀ i,i < c.S.length → ¬ q - c.s i < 0 → ∀ (b4 : Nat) (bf : RR) (own : Nat → Nat × Option Cont),Fit { reg := fun _ => .raw undef,own := own } [] (yI q0 q2 q3 g4 g7 b4 (bD #[a,b] asg body .ready none sc.reg) ⟨120,2,[eC c],2⟩ ⟨26,4,[eR y],2⟩ x1004 bf (V i)) →
   ∀ kf : Exit → St → Prop,(∀ s2,Fit s2 [] (yI q0 q2 q3 g4 g7 b4 (bD #[a,b] asg body .busy none sc.reg) ⟨120,2,[eC c],2⟩ ⟨26,4,[eR y],2⟩ x1004 bf (V (i + 1))) → kf .normal s2) →
   PWP Tryz.prog lay.get asg (aC (fun s2 => s2.own 2000 = (q0,some (bD #[a,b] asg body .ready none sc.reg)) ∧ PWP Tryz.prog lay.get body kf { reg := s2.reg,own := (s2.setOwn 2000 q0 (some (bD #[a,b] asg body .busy none sc.reg))).own }) (fun _ _ => False))
    { reg := l5 [(a,.agg (eR (ofQ (c.m i - bg c.m i)))),(b,.agg (eR (ofQ (q - c.s i))))] sc.reg,own := own })
  (hend : ∀ i,i ≤ c.S.length → (i = c.S.length ∨ (i < c.S.length ∧ q - c.s i < 0)) → ∀ (b4 : Nat) (bf : RR) (s2 : St),Fit s2 [] (yI q0 q2 q3 g4 g7 b4 (bD #[a,b] asg body .ready none sc.reg) ⟨120,2,[eC c],2⟩ ⟨26,4,[eR y],2⟩ x1004 bf (V i)) →
   Q .normal { reg := sc.reg,own := (s2.setOwn 2000 (q0 + 1) none).own }) :
  PWP Tryz.prog lay.get ((Tryz.f191.body).getD .skip) (i8 sc 2000 q0 #[a,b] asg body Q) { reg := fun t => [PV.yl 2000 q0,.ptr 2002 q2 0 0,.ptr 2003 q3 0 0].getD t (.raw undef),own := s0.own } := by
 have hz := dl 0 (by decide) (by decide)
 have hSl : (c.S.map eN).length = c.S.length := by simp
 rw [← Fit.over (l := []) hown]
 generalize hrd : bD #[a,b] asg body .ready none sc.reg = rd at *
 repeat refine ac rfl ?_
 refine aq rfl rfl rfl hz rfl rfl ?_
 repeat refine ac rfl ?_
 refine ax (fun k : Nat × Nat × RR => k.1 ≤ c.S.length ∧ k.2.2 = wY c k.1) (fun k => [(0,.yl 2000 q0),(1,.ptr 2002 q2 0 0),(2,.ptr 2003 q3 0 0),(4,.ptr 4 k.2.1 0 0),(10,.sl (c.S.map eN)),(11,I c.S.length),(12,I (k.1 : Nat))])
  (fun k => yI q0 q2 q3 g4 g7 k.2.1 rd ⟨120,2,[eC c],2⟩ ⟨26,4,[eR y],2⟩ x1004 k.2.2 (V k.1)) (fun k => c.S.length - k.1) (0,_,wY c 0) ⟨Nat.zero_le _,rfl⟩ ⟨rfl,rfl,rfl,rfl,rfl,by rw [← hSl];rfl,rfl,rfl,rfl,rfl,rfl,rfl,rfl,trivial⟩ ?_
 rintro ⟨i,b4,bf⟩ st ⟨hi,hbf⟩
 simp only at hi hbf
 subst hbf
 dsimp only
 repeat refine ac rfl ?_
 refine ae rfl ?_ ?_<;>intro h
 ·have hlt : i < c.S.length := by have := of_decide_eq_true h;omega
  clear h
  have hx := aW (d := 0) hlt
  have hxb := jP hc i
  have hnum := dl (c.S.getD i 0) hxb.1 hxb.2
  have hzb : Zb (c.S.getD i 0) := aN hxb.1 hxb.2
  have hsub := js y (ofQ ((c.S.getD i 0 : Int) : Rat)) (hx := hy) (by omega) (by decide)
  have hfar : Vq (ofQ (q - ((c.S.getD i 0 : Int) : Rat))) (q - c.s i) (n + 1 + 4 + 1) := Vq.ofQ (h := @HQ.sub _ _ (n + 1) 4 hy.hq HQ.int)
  have hsg := yN (ofQ (q - ((c.S.getD i 0 : Int) : Rat))) (hx := hfar) (by omega)
  have hsl := d9 (q - c.s i)
  have hw : IntKind.i64.wrap (((i : Nat) : Int) + 1) = ((i + 1 : Nat) : Int) := by
   have := c.S.length
   rw [wrap_i64 (by omega) (by have := hc.ls;omega)];omega
  repeat refine ac rfl ?_
  refine bm rfl rfl rfl rfl rfl rfl rfl hx rfl ?_
  (repeat ((fail_if_success (with_reducible refine aP 4 ?_));refine cF rfl ?_))
  refine aB (gD 7) ?_
  refine aZ 4 1 [17,18,19,20,7] [] (by decide +kernel) rfl ?_
  repeat refine ac rfl ?_
  refine aq rfl rfl rfl hnum rfl rfl ?_
  repeat refine ac rfl ?_
  refine aq rfl rfl rfl hsub rfl rfl ?_
  repeat refine ac rfl ?_
  refine vA 13 [21,22,23,24,25,26,27,28,29,30,31,32,33] (by decide +kernel) ?_
  repeat refine ac rfl ?_
  refine aT rfl rfl rfl hsg rfl rfl rfl ?_
  repeat refine ac rfl ?_
  refine cb rfl rfl rfl ?_ ?_<;>intro h
  ·have hneg : q - c.s i < 0 := hsl.1 (of_decide_eq_true h)
   clear h
   repeat refine ac rfl ?_
   refine mA ?_
   repeat refine ac rfl ?_
   refine .inl ⟨by rw [← hrd];rfl,?_⟩
   exact hend i (by omega) (.inr ⟨hlt,hneg⟩) b4 _ _ ⟨rfl,rfl,rfl,rfl,rfl,rfl,trivial⟩
  ·have hpos : ¬ q - c.s i < 0 := fun h2 => (of_decide_eq_false h) (hsl.2 h2)
   clear h
   have hmx := aW (l := c.M) (i := i) (d := RR.zero) (by omega)
   have hmv := oQ c hc i
   have hbv := l0 c hc i
   have hsub2 := js (c.M.getD i RR.zero) (wY c i) (hx := hmv) (hy := hbv) (by decide) (by decide)
   repeat refine ac rfl ?_
   refine bm rfl rfl rfl rfl rfl rfl rfl hmx rfl ?_
   repeat refine ac rfl ?_
   refine aq rfl rfl rfl hsub2 rfl rfl ?_
   repeat refine ac rfl ?_
   refine sW rfl rfl rfl (wg (ps := #[a,b]) (asg := asg) (body := body) (regs := sc.reg) rfl rfl rfl (by rw [hrd];rfl) rfl ?_)
   rw [hrd]
   refine hround i hlt hpos b4 (wY c i) _ (by exact ⟨rfl,rfl,rfl,rfl,rfl,rfl,trivial⟩) _ (fun s2 hf => ?_)
   rw [← Fit.over (l := []) hf]
   refine ⟨rfl,?_⟩
   refine mA ?_
   repeat refine ac rfl ?_
   refine bm rfl rfl rfl rfl rfl rfl rfl hmx rfl ?_
   repeat refine ac rfl ?_
   exact ⟨(i + 1,b4,wY c (i + 1)),⟨by simp only;omega,rfl⟩,by simp only;omega,rfl,rfl,rfl,rfl,rfl,rfl,congrArg I hw,by rw [← hrd];rfl,rfl,rfl,rfl,rfl,rfl,trivial⟩
 ·have hie : i = c.S.length := by have := of_decide_eq_false h;omega
  clear h
  repeat refine ac rfl ?_
  refine .inl ⟨by rw [← hrd];rfl,?_⟩
  exact hend i (by omega) (.inl hie) b4 _ _ ⟨rfl,rfl,rfl,rfl,rfl,rfl,trivial⟩
def jE : Code → Option (Array Tmp × Code × Code)
 |.rangeFunc _ ps a b => some (ps,a,b)
 |.seq x y => match jE x with | some r => some r | none => jE y
 |.block _ c => jE c
 |.loop c => jE c
 |.cond _ x y => match jE x with | some r => some r | none => jE y
 |_ => none
theorem kV {c : CR} (hc : c.Lim) (k : Nat) : HQ (c.m k - bg c.m k) 27 := @HQ.sub _ _ 13 13 (oQ c hc k).hq (l0 c hc k).hq
theorem vD {c : CR} (hc : c.Lim) {q : Rat} {n : Nat} (h : HQ q n) (k : Nat) : HQ (q - c.s k) (n + 5) := by
 have hb := jP hc k
 have hzb : Zb (c.S.getD k 0) := aN hb.1 hb.2
 exact @HQ.sub _ _ n 4 h HQ.int
theorem rq {c : CR} (hc : c.Lim) {q : Rat} {n : Nat} (h : HQ q n) (k : Nat) : HQ (cw c.s c.m q k) (n + 32) := by
 rw [cw]
 split
 ·exact HQ.zero.mono (by omega)
 ·exact (@HQ.mul _ _ 27 (n + 5) (kV hc k) (vD hc h k)).mono (by omega)
theorem mD {c : CR} (ha : ∀ k,k + 1 < c.S.length → c.s k < c.s (k + 1)) {f : Nat → Rat} {q : Rat} (hf : ∀ k,q - c.s k < 0 → f k = 0) {i : Nat} (hi : i ≤ c.S.length) (h : i = c.S.length ∨ (i < c.S.length ∧ q - c.s i < 0)) : ak f i = ak f c.S.length := by
 rcases h with h | ⟨h1,h2⟩
 ·rw [h]
 ·have key : ∀ m,i + m ≤ c.S.length → ak f (i + m) = ak f i ∧ (i + m < c.S.length → q - c.s (i + m) < 0) := by
   intro m
   induction m with
   |zero => intro _;exact ⟨rfl,fun _ => h2⟩
   |succ m ih =>
    intro hm
    obtain ⟨e1,e2⟩ := ih (by omega)
    have h3 := e2 (by omega)
    refine ⟨by rw [Nat.add_succ,ak,e1,hf _ h3];grind,fun hl => ?_⟩
    have h4 := ha (i + m) (by omega)
    rw [show i + (m + 1) = i + m + 1 by omega]
    grind
  have := (key (c.S.length - i) (by omega)).1
  rw [show i + (c.S.length - i) = c.S.length by omega] at this
  exact this.symm
theorem ma {c : CR} : ∀ (k i : Nat),bP c i k = 0 → ∀ j,i ≤ j → j < i + k → cd c j = 0
 |0,i,_,j,h1,h2 => by omega
 |k + 1,i,h,j,h1,h2 => by
  rw [bP] at h
  by_cases hs : cd c i = 0
  ·rw [if_pos hs] at h
   by_cases hj : j = i
   ·subst hj;exact hs
   ·exact ma k (i + 1) h j (by omega) (by omega)
  ·rw [if_neg hs] at h;exact absurd h hs
theorem cZ {c : CR} (h : bp c = 0) : c.S.length ≤ 40 ∧ c.M.length = c.S.length ∧ (∀ k,k < c.S.length → -10000000 ≤ c.S.getD k 0 ∧ c.S.getD k 0 ≤ 10000000 ∧ 0 ≤ c.m k) ∧ ∀ k,k + 1 < c.S.length → c.s k < c.s (k + 1) := by
 rw [bp] at h
 split at h
 ·omega
 ·rename_i h1
  split at h
  ·omega
  ·rename_i h2
   have hs := ma _ _ h
   refine ⟨by omega,by omega,fun k hk => ?_,fun k hk => ?_⟩
   ·have := hs k (by omega) (by omega)
    rw [cd] at this
    split at this
    ·omega
    ·rename_i h3
     refine ⟨by omega,by omega,?_⟩
     rw [CR.m]
     have : ¬ (c.M.getD k RR.zero).val < 0 := fun h => h3 (.inr (.inr h))
     grind
   ·have := hs (k + 1) (by omega) (by omega)
    rw [cd] at this
    split at this
    ·omega
    ·split at this
     ·omega
     ·rename_i h4
      have h5 : c.S.getD k 0 < c.S.getD (k + 1) 0 := by
       rw [show k + 1 - 1 = k by omega] at h4
       omega
      rw [CR.s,CR.s]
      exact_mod_cast h5
theorem sd {c : CR} (h : bp c = 0) : Crv c.S.length c.s c.m := ⟨(cZ h).2.2.2,fun k hk => ((cZ h).2.2.1 k hk).2.2⟩
noncomputable def zU : Array Tmp × Code × Code := (jE ((Tryz.f139.body).getD .skip)).getD (#[],.skip,.skip)
def rx (P : Program) (sc : St) (q0 q2 q3 g4 g7 b4 : Nat) (pa pb : Nat) (asg body : Code) (x2 x3 x1004 : Cont) (bf V0 V1 CH FA : RR) : Prop :=
 ∀ own : Nat → Nat × Option Cont,Fit { reg := fun _ => .raw undef,own := own } [] (yI q0 q2 q3 g4 g7 b4 (bD #[pa,pb] asg body .ready none sc.reg) x2 x3 x1004 bf V0) →
  ∀ kf : Exit → St → Prop,(∀ s2,Fit s2 [] (yI q0 q2 q3 g4 g7 b4 (bD #[pa,pb] asg body .busy none sc.reg) x2 x3 x1004 bf V1) → kf .normal s2) →
  PWP P lay.get asg (aC (fun s2 => s2.own 2000 = (q0,some (bD #[pa,pb] asg body .ready none sc.reg)) ∧ PWP P lay.get body kf { reg := s2.reg,own := (s2.setOwn 2000 q0 (some (bD #[pa,pb] asg body .busy none sc.reg))).own }) (fun _ _ => False))
   { reg := l5 [(pa,.agg (eR CH)),(pb,.agg (eR FA))] sc.reg,own := own }
set_option maxRecDepth 20000 in
theorem pA {s0 : St} {q0 q2 q3 g4 g7 b4 : Nat} {x2 x3 x1004 : Cont} {bf V0 V1 CH FA PR : RR} (hmul : Ret Tryz.prog .shared 105 [.agg (eR CH),.agg (eR FA)] (.agg (eR PR))) (hadd : Ret Tryz.prog .shared 106 [.agg (eR V0),.agg (eR PR)] (.agg (eR V1))) :
  rx Tryz.prog (s0.over [(7,.ptr 1007 g7 0 0)] []) q0 q2 q3 g4 g7 b4 20 21 zU.2.1 zU.2.2 x2 x3 x1004 bf V0 V1 CH FA := by
 intro own hf kf hPost
 have ho : own = (St.over { reg := fun _ => .raw undef,own := own } [] (yI q0 q2 q3 g4 g7 b4 (bD #[20,21] zU.2.1 zU.2.2 .ready none (s0.over [(7,.ptr 1007 g7 0 0)] []).reg) x2 x3 x1004 bf V0)).own := congrArg St.own (Fit.over hf).symm
 rw [ho]
 clear ho hf
 generalize (St.mk (fun _ => .raw undef) own) = s1
 repeat refine ac rfl ?_
 refine ⟨rfl,?_⟩
 repeat refine ac rfl ?_
 refine am 5 [22,23,24,25,26] (by decide +kernel) ?_
 repeat refine ac rfl ?_
 refine aq rfl rfl rfl hmul rfl rfl ?_
 repeat refine ac rfl ?_
 refine aq rfl rfl rfl hadd rfl rfl ?_
 repeat refine ac rfl ?_
 exact hPost _ ⟨rfl,rfl,rfl,rfl,rfl,rfl,trivial⟩
set_option maxRecDepth 20000 in
theorem tE (c : CR) (hc : c.Lim) (h0 : bp c = 0) (y : RR) {q : Rat} {n : Nat} [hy : Vq y q n] (hn : n ≤ 100000) : Ret Tryz.prog .shared 139 [.agg (eC c),.agg (eR y)] (.tup [.agg (eR (ofQ (fG c.S.length c.s c.m q))),I 0]) := by
 have hcc := cY c hc
 rw [h0] at hcc
 obtain ⟨h40,hSM,-,hasc⟩ := cZ h0
 have hz := dl 0 (by decide) (by decide)
 rw [show (((0 : Int) : Rat)) = 0 from rfl] at hz
 have hsum : ∀ i,i ≤ 40 → Vq (ofQ (ak (cw c.s c.m q) i)) (ak (cw c.s c.m q) i) (i * (n + 1 + 32 + 1) + 4) := fun i _ => Vq.ofQ (h := be i fun k _ => rq hc hy.hq k)
 refine Ret.of_pwpR layOk mixed Go.Proofs.Tryz.func139 rfl (by decide) rfl rfl rfl ?_
 repeat refine ac rfl ?_
 refine aT rfl rfl rfl hcc rfl rfl rfl ?_
 repeat refine ac rfl ?_
 refine aq rfl rfl rfl hz rfl rfl ?_
 (repeat ((fail_if_success (with_reducible refine aP 5 ?_));refine cF rfl ?_))
 refine aB (Ghost.move (k := 2) (k' := 1002) (t := 2) rfl rfl rfl rfl) ?_
 refine aB (Ghost.move (k := 3) (k' := 1003) (t := 3) rfl rfl rfl rfl) ?_
 refine aB (Ghost.move (k := 4) (k' := 1004) (t := 4) rfl rfl rfl rfl) ?_
 refine aB (Ghost.move (k := 7) (k' := 1007) (t := 7) rfl rfl rfl rfl) ?_
 ((repeat ((fail_if_success (with_reducible refine aP 5 ?_));refine cF rfl ?_));refine aE 2 ?_)
 iterate 2 refine ac rfl ?_
 refine aR ?_
 refine aV rfl (bX layOk rfl rfl Go.Proofs.Tryz.func162 rfl (by decide) rfl rfl ?_)
 (repeat ((fail_if_success (with_reducible refine aP 1 ?_));refine cF rfl ?_))
 refine aB (Ghost.move (k := 2) (k' := 2002) (t := 2) rfl rfl rfl rfl) ?_
 refine aB (Ghost.move (k := 3) (k' := 2003) (t := 3) rfl rfl rfl rfl) ?_
 repeat refine ac rfl ?_
 refine nr rfl rfl ?_
 refine aJ ?_
 repeat refine ac rfl ?_
 refine dJ [(7,.ptr 1007 1 0 0),(4,.ptr 1004 1 0 0),(19,.clo 191 [.ptr 2002 1 0 0,.ptr 2003 1 0 0])] [(2002,1,⟨120,2,[eC c],2⟩),(2003,1,⟨26,4,[eR y],2⟩),(1004,1,⟨26,4,[[.bool false,.nil,.bool false,.nil]],2⟩),(1007,1,⟨26,4,[eR (ofQ 0)],2⟩)] ⟨rfl,rfl,rfl,rfl,rfl,rfl,rfl,trivial⟩ ?_
 intro s3
 refine o9 (mE (ps := #[20,21]) (asg := zU.2.1) (body := zU.2.2) 2000 rfl Go.Proofs.Tryz.func191 rfl rfl rfl rfl rfl rfl ?_)
 generalize hq0 : (s3.own 2000).1 + 1 = q0
 refine k_ (q := q) (n := n) (q0 := q0) (q2 := 1) (q3 := 1) (g4 := 1) (g7 := 1) c hc y hy (by omega) hSM (fun i => ofQ (ak (cw c.s c.m q) i)) _ ⟨by rw [← hq0];rfl,rfl,rfl,rfl,rfl,trivial⟩ ?_ ?_
 ·intro i hi hpos b4 bf
  have hmul := dV (ofQ (c.m i - bg c.m i)) (ofQ (q - c.s i)) (hx := Vq.ofQ (h := kV hc i)) (hy := Vq.ofQ (h := vD hc hy.hq i)) (by decide) (by omega)
  have hadd := dj (ofQ (ak (cw c.s c.m q) i)) (ofQ ((c.m i - bg c.m i) * (q - c.s i))) (hx := hsum i (by omega)) (hy := Vq.ofQ (h := @HQ.mul _ _ 27 (n + 1 + 5) (kV hc i) (vD hc hy.hq i))) (by have := Nat.mul_le_mul (show i ≤ 40 by omega) (show n + 1 + 32 + 1 ≤ 100034 by omega);omega) (by omega)
  rw [show ak (cw c.s c.m q) i + (c.m i - bg c.m i) * (q - c.s i) = ak (cw c.s c.m q) (i + 1) by rw [ak,cw,if_neg hpos]] at hadd
  exact pA (s0 := s3.over [(4,.ptr 1004 1 0 0),(19,.clo 191 [.ptr 2002 1 0 0,.ptr 2003 1 0 0])] []) hmul hadd
 ·intro i hi hor b4 bf s2 hf
  have hres : ak (cw c.s c.m q) i = fG c.S.length c.s c.m q := mD hasc (fun k hk => by rw [cw,if_pos hk]) hi hor
  dsimp only at hf
  rw [hres] at hf
  rw [← Fit.over (l := []) hf]
  repeat refine ac rfl ?_
  exact aF rfl rfl rfl
namespace Bd
variable {b : Bd}
end Bd
namespace Bd
variable {b : Bd}
def lim (b : Bd) (i : Nat) : Prop := bg (b.M i) (b.n i) = 0
def cap (b : Bd) (i : Nat) : Rat := kw (b.n i) (b.S i) (b.M i)
end Bd
def InR (n : Nat) (S : Nat → Rat) (p : Nat) (y : Rat) : Prop := p ≤ n ∧ (∀ k,p = k + 1 → S k ≤ y) ∧ (p < n → y < S p)
section
variable {n : Nat} {S M : Nat → Rat} {y : Rat} {p : Nat}
theorem InR.c (h : InR n S p y) : zQ n S p y := ⟨h.1,h.2.1,fun hp => by have := h.2.2 hp;grind⟩
theorem InR.some (h : Crv n S M) (y : Rat) : ∀ (m : Nat),m ≤ n → ∃ p,p ≤ m ∧ (∀ k,p = k + 1 → S k ≤ y) ∧ (p < m → y < S p)
 |0,_ => ⟨0,Nat.le_refl _,fun k hk => by omega,fun hk => by omega⟩
 |m + 1,hm => by
  by_cases hy : S m ≤ y
  ·exact ⟨m + 1,Nat.le_refl _,fun k hk => by have : k = m := by omega
                                             subst this;exact hy,fun hk => by omega⟩
  ·obtain ⟨p,h1,h2,h3⟩ := InR.some h y m (by omega)
   refine ⟨p,by omega,h2,fun _ => ?_⟩
   by_cases hp : p < m
   ·exact h3 hp
   ·have : p = m := by omega
    subst this;grind
theorem InR.get (h : Crv n S M) (y : Rat) : ∃ p,InR n S p y := InR.some h y n (Nat.le_refl _)
end
namespace Bd
variable {b : Bd}
theorem exclude (h : b.Ok) {z t A B : Rat} (hb : b.Bal z t) (hl : ∀ i,i < b.N → 0 < A + B * b.X i → b.lim i) : b.w * (A + B * b.A) ≤ ak (fun i => if 0 < A + B * b.X i then b.cap i * (A + B * b.X i) else 0) b.N := by
 have h1 : b.w * (A + B * b.A) = ak (fun i => b.f z t i * (A + B * b.X i)) b.N := by
  have h2 := pq (f := fun i => b.f z t i * A) (g := fun i => b.f z t i * b.X i * B) (n := b.N)
  rw [lB (f := b.f z t),lB (f := fun i => b.f z t i * b.X i)] at h2
  have h3 : ak (fun i => b.f z t i * (A + B * b.X i)) b.N = ak (fun i => b.f z t i * A + b.f z t i * b.X i * B) b.N := ee fun i _ => by grind
  rw [h3,h2]
  have e1 : ak (b.f z t) b.N = b.w := hb.1
  have e2 : ak (fun i => b.f z t i * b.X i) b.N = b.w * b.A := hb.2
  rw [e1,e2];grind
 rw [h1]
 refine j7 fun i hi => ?_
 have hnn := AJ h (z := z) (t := t) hi
 split
 ·rename_i hv
  have hc := h.crv i hi
  have hle : b.f z t i ≤ b.cap i := by
   obtain ⟨q,hq⟩ : ∃ q,b.y z t i ≤ q ∧ zQ (b.n i) (b.S i) (b.n i) q := by
    cases hn : b.n i with
    |zero => exact ⟨b.y z t i,Rat.le_refl,⟨Nat.le_refl _,fun k hk => by omega,fun hk => by omega⟩⟩
    |succ k => exact ⟨b.y z t i + dZ (b.S i k - b.y z t i),by simp only [dZ];grind,⟨Nat.le_refl _,fun k' hk' => by
      obtain rfl : k = k' := by omega
      simp only [dZ];grind,fun hk => by omega⟩⟩
   have := pz hc hq.1
   rw [wJ hc hq.2 (hl i hi hv)] at this
   exact this
  have := Rat.mul_nonneg (show 0 ≤ b.cap i - b.f z t i by grind) (Rat.le_of_lt hv)
  grind
 ·rename_i hv
  have := Rat.mul_nonneg hnn (show 0 ≤ -(A + B * b.X i) by grind)
  grind
end Bd
namespace Bd
structure Sz (b : Bd) : Prop where
 N : b.N ≤ 10
 n : ∀ i,i < b.N → b.n i ≤ 5
 X : ∀ i,i < b.N → hq (b.X i) 4
 C : ∀ i,i < b.N → hq (b.C i) 9
 S : ∀ i,i < b.N → ∀ k,k < b.n i → hq (b.S i k) 4
 M : ∀ i,i < b.N → ∀ k,k < b.n i → hq (b.M i k) 4
 w : hq b.w 4
 A : hq b.A 4
variable {b : Bd}
theorem Sz.k (h : b.Sz) {p : Nat → Nat} (hp : ∀ i,i < b.N → p i ≤ b.n i) {i : Nat} (hi : i < b.N) : HQ (b.k p i) 4 := by
 rw [Bd.k]
 have h1 := hp i hi
 cases hpi : p i with
 |zero => rw [bg];exact HQ.zero
 |succ m => exact ⟨h.M i hi m (by omega)⟩
theorem Sz.bef (h : b.Sz) {i : Nat} (hi : i < b.N) {k : Nat} (hk : k < b.n i) : HQ (bg (b.M i) k) 4 := by
 cases k with
 |zero => rw [bg];exact HQ.zero
 |succ m => exact ⟨h.M i hi m (by omega)⟩
theorem Sz.o (h : b.Sz) {p : Nat → Nat} (hp : ∀ i,i < b.N → p i ≤ b.n i) {i : Nat} (hi : i < b.N) : HQ (b.o p i) 74 := by
 rw [Bd.o,gx]
 have h1 := hp i hi
 have h2 := h.n i hi
 refine (be (m := 13) (p i) fun k hk => ?_).mono (by omega)
 have := h.bef hi (k := k) (by omega)
 have : HQ (b.M i k) 4 := ⟨h.M i hi k (by omega)⟩
 have : HQ (b.S i k) 4 := ⟨h.S i hi k (by omega)⟩
 show HQ ((b.M i k - bg (b.M i) k) * b.S i k) 13
 exact inferInstanceAs (HQ ((b.M i k - bg (b.M i) k) * b.S i k) (4 + 4 + 1 + 4))
theorem Sz.Kh (h : b.Sz) {p : Nat → Nat} (hp : ∀ i,i < b.N → p i ≤ b.n i) : HQ (b.Kh p) 54 := by
 have := h.N
 exact (be (m := 4) b.N fun i hi => h.k hp hi).mono (by omega)
theorem Sz.Kc (h : b.Sz) {p : Nat → Nat} (hp : ∀ i,i < b.N → p i ≤ b.n i) : HQ (b.Kc p) 94 := by
 have := h.N
 refine (be (m := 8) b.N fun i hi => ?_).mono (by omega)
 have := h.k hp hi
 have : HQ (b.X i) 4 := ⟨h.X i hi⟩
 exact inferInstanceAs (HQ (b.k p i * b.X i) (4 + 4))
theorem Sz.Kp (h : b.Sz) {p : Nat → Nat} (hp : ∀ i,i < b.N → p i ≤ b.n i) : HQ (b.Kp p) 134 := by
 have := h.N
 refine (be (m := 12) b.N fun i hi => ?_).mono (by omega)
 have := h.k hp hi
 have : HQ (b.X i) 4 := ⟨h.X i hi⟩
 exact inferInstanceAs (HQ (b.k p i * b.X i * b.X i) (4 + 4 + 4))
theorem Sz.Fo (h : b.Sz) {p : Nat → Nat} (hp : ∀ i,i < b.N → p i ≤ b.n i) : HQ (b.Fo p) 894 := by
 have := h.N
 refine (be (m := 88) b.N fun i hi => ?_).mono (by omega)
 have := h.k hp hi
 have := h.o hp hi
 have : HQ (b.C i) 9 := ⟨h.C i hi⟩
 exact inferInstanceAs (HQ (b.k p i * b.C i - b.o p i) (4 + 9 + 74 + 1))
theorem Sz.Go (h : b.Sz) {p : Nat → Nat} (hp : ∀ i,i < b.N → p i ≤ b.n i) : HQ (b.Go p) 934 := by
 have := h.N
 refine (be (m := 92) b.N fun i hi => ?_).mono (by omega)
 have := h.k hp hi
 have := h.o hp hi
 have : HQ (b.C i) 9 := ⟨h.C i hi⟩
 have : HQ (b.X i) 4 := ⟨h.X i hi⟩
 exact inferInstanceAs (HQ ((b.k p i * b.C i - b.o p i) * b.X i) (4 + 9 + 74 + 1 + 4))
end Bd
def nZ (S : Nat → Rat) (y : Rat) : Nat → Nat
 |0 => 0
 |m + 1 => if S m < y then m + 1 else nZ S y m
def jL (S : Nat → Rat) (y : Rat) : Nat → Nat
 |0 => 0
 |m + 1 => if S m ≤ y then m + 1 else jL S y m
theorem o5 {S : Nat → Rat} {y : Rat} : ∀ m,nZ S y m ≤ m ∧ (∀ k,nZ S y m = k + 1 → S k < y) ∧ (nZ S y m < m → y ≤ S (nZ S y m))
 |0 => ⟨Nat.le_refl _,fun k hk => by simp [nZ] at hk,fun h => by simp [nZ] at h⟩
 |m + 1 => by
  obtain ⟨h1,h2,h3⟩ := o5 (S := S) (y := y) m
  rw [nZ]
  split
  ·rename_i hy
   exact ⟨Nat.le_refl _,fun k hk => by have : k = m := by omega
                                       subst this;exact hy,fun h => by omega⟩
  ·rename_i hy
   refine ⟨by omega,h2,fun _ => ?_⟩
   by_cases hp : nZ S y m < m
   ·exact h3 hp
   ·rw [show nZ S y m = m by omega];grind
theorem o7 {S : Nat → Rat} {y : Rat} : ∀ m,jL S y m ≤ m ∧ (∀ k,jL S y m = k + 1 → S k ≤ y) ∧ (jL S y m < m → y < S (jL S y m))
 |0 => ⟨Nat.le_refl _,fun k hk => by simp [jL] at hk,fun h => by simp [jL] at h⟩
 |m + 1 => by
  obtain ⟨h1,h2,h3⟩ := o7 (S := S) (y := y) m
  rw [jL]
  split
  ·rename_i hy
   exact ⟨Nat.le_refl _,fun k hk => by have : k = m := by omega
                                       subst this;exact hy,fun h => by omega⟩
  ·rename_i hy
   refine ⟨by omega,h2,fun _ => ?_⟩
   by_cases hp : jL S y m < m
   ·exact h3 hp
   ·rw [show jL S y m = m by omega];grind
theorem vm {n : Nat} {S : Nat → Rat} {y : Rat} : InL n S (nZ S y n) y := o5 n
theorem zz {n : Nat} {S : Nat → Rat} {y : Rat} : InR n S (jL S y n) y := o7 n
theorem InL.uniq {n : Nat} {S M : Nat → Rat} (h : Crv n S M) {p q : Nat} {y : Rat} (h1 : InL n S p y) (h2 : InL n S q y) : p = q := by
 have key : ∀ {p q : Nat},InL n S p y → InL n S q y → p < q → False := by
  intro p q h1 h2 hlt
  obtain ⟨k,rfl⟩ : ∃ k,q = k + 1 := ⟨q - 1,by omega⟩
  have g1 := h2.2.1 k rfl
  have g2 := h1.2.2 (by have := h2.1;omega)
  have := h.mono_st (i := p) (j := k) (by omega) (by have := h2.1;omega)
  grind
 rcases Nat.lt_trichotomy p q with g | g | g
 ·exact (key h1 h2 g).elim
 ·exact g
 ·exact (key h2 h1 g).elim
theorem InR.uniq {n : Nat} {S M : Nat → Rat} (h : Crv n S M) {p q : Nat} {y : Rat} (h1 : InR n S p y) (h2 : InR n S q y) : p = q := by
 have key : ∀ {p q : Nat},InR n S p y → InR n S q y → p < q → False := by
  intro p q h1 h2 hlt
  obtain ⟨k,rfl⟩ : ∃ k,q = k + 1 := ⟨q - 1,by omega⟩
  have g1 := h2.2.1 k rfl
  have g2 := h1.2.2 (by have := h2.1;omega)
  have := h.mono_st (i := p) (j := k) (by omega) (by have := h2.1;omega)
  grind
 rcases Nat.lt_trichotomy p q with g | g | g
 ·exact (key h1 h2 g).elim
 ·exact g
 ·exact (key h2 h1 g).elim
namespace Bd
def pL (b : Bd) (z t : Rat) (i : Nat) : Nat := nZ (b.S i) (b.y z t i) (b.n i)
def pR (b : Bd) (z t : Rat) (i : Nat) : Nat := jL (b.S i) (b.y z t i) (b.n i)
def newt (kh kc kp fo mo : Rat) : Option (Rat × Rat) := if kh * kp - kc * kc = 0 then none else some ((kp * fo - kc * mo) / (kh * kp - kc * kc),(kh * mo - kc * fo) / (kh * kp - kc * kc))
def tryP (b : Bd) (z t : Rat) (p : Nat → Nat) : Option (Rat × Rat) := match newt (b.Kh p) (b.Kc p) (b.Kp p) (b.w - b.F z t) (-(b.e z t)) with
 |none => none
 |some d => if b.F (z + d.1) (t + d.2) = b.w ∧ b.G (z + d.1) (t + d.2) = b.w * b.A then some (z + d.1,t + d.2) else none
def guess (b : Bd) (z t : Rat) : Option (Rat × Rat) := match b.tryP z t (b.pR z t) with
 |some x => some x
 |none => b.tryP z t (b.pL z t)
noncomputable def sg (b : Bd) (t : Rat) : Rat := Classical.epsilon fun z => b.Least z t
noncomputable def E (b : Bd) (t : Rat) : Rat := b.e (b.sg t) t
open Classical in
noncomputable def dbl (b : Bd) (s : Rat) : Nat → Rat → Option Rat
 |0,_ => none
 |n + 1,w => if s * b.E (s * w) < 0 then dbl b s n (w + w) else some w
noncomputable def at1 (b : Bd) (t : Rat) : Option (Rat × Rat) := if b.E t = 0 then some (b.sg t,t) else b.guess (b.sg t) t
noncomputable def bis (b : Bd) : Nat → Rat → Rat → Option (Rat × Rat)
 |0,_,_ => none
 |n + 1,lo,hi => match b.at1 ((lo + hi) / 2) with
  |some x => some x
  |none => if b.E ((lo + hi) / 2) < 0 then bis b n ((lo + hi) / 2) hi else bis b n lo ((lo + hi) / 2)
noncomputable def fst3 (b : Bd) (lo hi : Rat) : Option (Rat × Rat) := match b.at1 0 with
 |some x => some x
 |none => match b.at1 lo with
  |some x => some x
  |none => b.at1 hi
variable {b : Bd}
theorem vY {t : Rat} (h : ∃ z,b.Least z t) : b.Least (b.sg t) t := Classical.epsilon_spec h
theorem sg_eq {z t : Rat} (h : b.Least z t) : b.sg t = z := Least.uniq (vY ⟨z,h⟩) h
noncomputable def eqQ (b : Bd) (n : Nat) : Option (Rat × Rat) := match b.dbl (-1) n 1,b.dbl 1 n 1 with
 |some wl,some wh => (match b.fst3 (-wl) wh with
  |some x => some x
  |none => b.bis n (-wl) wh)
 |_,_ => none
end Bd
def cC : List (Rat × Rat) → Rat → Rat
 |[],_ => 0
 |x :: l,z => x.2 * dZ (z - x.1) + cC l z
def iz : List (Rat × Rat) → Rat
 |[] => 0
 |x :: l => x.2 + iz l
theorem fR (l m : List (Rat × Rat)) (z : Rat) : cC (l ++ m) z = cC l z + cC m z := by
 induction l with
 |nil => rw [List.nil_append,cC];grind
 |cons x l ih => rw [List.cons_append,cC,cC,ih];grind
theorem og (l m : List (Rat × Rat)) : iz (l ++ m) = iz l + iz m := by
 induction l with
 |nil => rw [List.nil_append,iz];grind
 |cons x l ih => rw [List.cons_append,iz,iz,ih];grind
theorem sQ {l m : List (Rat × Rat)} (h : l.Perm m) (z : Rat) : cC l z = cC m z := by
 induction h with
 |nil => rfl
 |cons x _ ih => rw [cC,cC,ih]
 |swap x y l => simp only [cC];grind
 |trans _ _ h1 h2 => rw [h1,h2]
theorem gZ {l : List (Rat × Rat)} {z : Rat} (h : ∀ x ∈ l,z ≤ x.1) : cC l z = 0 := by
 induction l with
 |nil => rfl
 |cons x l ih =>
  have h1 := h x (by simp)
  rw [cC,ih fun y hy => h y (by simp [hy]),dZ,if_neg (by grind)];grind
theorem jG {l : List (Rat × Rat)} {a z : Rat} (h : ∀ x ∈ l,x.1 ≤ a) (hz : a ≤ z) : cC l z = cC l a + iz l * (z - a) := by
 induction l with
 |nil => simp only [cC,iz];grind
 |cons x l ih =>
  have h1 := h x (by simp)
  have e1 : dZ (z - x.1) = z - x.1 := by rw [dZ];grind
  have e2 : dZ (a - x.1) = a - x.1 := by rw [dZ];grind
  simp only [cC,iz]
  rw [ih fun y hy => h y (by simp [hy]),e1,e2];grind
def tL (w : Rat) : List (Rat × Rat) → Rat → Rat → Rat → Rat
 |[],c,k,a => if 0 < k then a + (w - c) / k else a
 |x :: l,c,k,a => if 0 < k then (if w ≤ c + k * (x.1 - a) then a + (w - c) / k else tL w l (c + k * (x.1 - a)) (k + x.2) x.1) else tL w l c (k + x.2) x.1
theorem yG {Φ : Rat → Rat} {w c k a : Rat} (hm : ∀ x y,x ≤ y → Φ x ≤ Φ y) (ha : Φ a = c) (hc : c < w) (hk : 0 < k) (hu : ∀ z,a ≤ z → z ≤ a + (w - c) / k → Φ z = c + k * (z - a)) : Φ (a + (w - c) / k) = w ∧ ∀ z',z' < a + (w - c) / k → Φ z' < w := by
 have hq : (w - c) / k * k = w - c := Rat.div_mul_cancel (by grind)
 have h0 : 0 ≤ (w - c) / k := by rw [Rat.div_def];exact Rat.mul_nonneg (by grind) (Rat.le_of_lt (Rat.inv_pos.2 hk))
 generalize (w - c) / k = d at *
 refine ⟨by rw [hu _ (by grind) Rat.le_refl];grind,fun z' hz => ?_⟩
 rcases Classical.em (a ≤ z') with h | h
 ·rw [hu z' h (by grind)]
  have := Rat.mul_pos hk (show 0 < a + d - z' by grind)
  grind
 ·have := hm z' a (by grind)
  grind
theorem zI {w : Rat} {Φ : Rat → Rat} (hm : ∀ x y,x ≤ y → Φ x ≤ Φ y) (hw : 0 < w) (hex : ∃ z,w ≤ Φ z) : ∀ (R P : List (Rat × Rat)) (c k a : Rat),(∀ z,Φ z = cC P z + cC R z) → R.Pairwise (fun x y => x.1 ≤ y.1) →
  ((P = [] ∧ c = 0 ∧ k = 0) ∨ ((∀ x ∈ P,x.1 ≤ a) ∧ (∀ x ∈ R,a ≤ x.1) ∧ Φ a = c ∧ c < w ∧ k = iz P)) → Φ (tL w R c k a) = w ∧ ∀ z',z' < tL w R c k a → Φ z' < w := by
 intro R
 induction R with
 |nil =>
  intro P c k a hΦ _ h
  obtain ⟨z0,hz0⟩ := hex
  rcases h with ⟨rfl,rfl,rfl⟩ | ⟨h1,_,h3,h4,h5⟩
  ·exfalso
   rw [hΦ] at hz0
   simp only [cC] at hz0
   grind
  ·have hline : ∀ z,a ≤ z → Φ z = c + k * (z - a) := fun z hz => by
    have e1 := hΦ z
    have e2 := hΦ a
    rw [jG h1 hz,← h5] at e1
    simp only [cC] at e1 e2
    grind
   rw [tL]
   split
   ·rename_i hk
    exact yG hm h3 h4 hk fun z hz _ => hline z hz
   ·rename_i hk
    exfalso
    rcases Classical.em (a ≤ z0) with hz | hz
    ·rw [hline z0 hz] at hz0
     have := Rat.mul_nonneg (show 0 ≤ -k by grind) (show 0 ≤ z0 - a by grind)
     grind
    ·have := hm z0 a (by grind);grind
 |cons x R ih =>
  intro P c k a hΦ hs h
  rw [List.pairwise_cons] at hs
  have hΦ' : ∀ z,Φ z = cC (P ++ [x]) z + cC R z := fun z => by
   rw [hΦ,fR];simp only [cC];grind
  rcases h with ⟨rfl,rfl,rfl⟩ | ⟨h1,h2,h3,h4,h5⟩
  ·rw [tL,if_neg (by grind)]
   refine ih ([] ++ [x]) 0 (0 + x.2) x.1 hΦ' hs.2 (.inr ⟨fun y hy => by simp at hy;subst hy;exact Rat.le_refl,fun y hy => hs.1 y hy,?_,hw,by simp only [iz,List.nil_append];grind⟩)
   rw [hΦ,gZ (l := x :: R) fun y hy => ?_]
   ·simp only [cC];grind
   ·rcases List.mem_cons.1 hy with rfl | hy
    ·exact Rat.le_refl
    ·exact hs.1 y hy
  ·have hax := h2 x (by simp)
   have hline : ∀ z,a ≤ z → z ≤ x.1 → Φ z = c + k * (z - a) := fun z hz hzx => by
    have e1 := hΦ z
    have e2 := hΦ a
    rw [jG h1 hz,← h5,gZ (l := x :: R) fun y hy => ?_] at e1
    ·rw [gZ (l := x :: R) fun y hy => h2 y hy] at e2
     grind
    ·rcases List.mem_cons.1 hy with rfl | hy
     ·exact hzx
     ·have := hs.1 y hy;grind
   have hx1 := hline x.1 hax Rat.le_refl
   have hP : ∀ y ∈ P ++ [x],y.1 ≤ x.1 := fun y hy => by
    rcases List.mem_append.1 hy with hy | hy
    ·have := h1 y hy;grind
    ·simp at hy;subst hy;exact Rat.le_refl
   have hcs : k + x.2 = iz (P ++ [x]) := by rw [og,← h5];simp only [iz];grind
   rw [tL]
   split
   ·rename_i hk
    split
    ·rename_i hle
     refine yG hm h3 h4 hk fun z hz hz2 => hline z hz ?_
     have hq : (w - c) / k * k = w - c := Rat.div_mul_cancel (by grind)
     generalize (w - c) / k = d at *
     rcases Classical.em (z ≤ x.1) with hc | hc
     ·exact hc
     ·have := Rat.mul_pos hk (show 0 < a + d - x.1 by grind)
      grind
    ·rename_i hlt
     exact ih (P ++ [x]) _ _ _ hΦ' hs.2 (.inr ⟨hP,fun y hy => hs.1 y hy,hx1,by grind,hcs⟩)
   ·rename_i hk
    have h6 := hm a x.1 hax
    have h7 := Rat.mul_nonneg (show 0 ≤ -k by grind) (show 0 ≤ x.1 - a by grind)
    exact ih (P ++ [x]) _ _ _ hΦ' hs.2 (.inr ⟨hP,fun y hy => hs.1 y hy,by grind,h4,hcs⟩)
namespace Bd
variable {b : Bd}
def bnd1 (b : Bd) (t : Rat) (i : Nat) : List (Rat × Rat) := (List.range (b.n i)).map fun k => (b.S i k - (b.C i + t * b.X i),b.M i k - bg (b.M i) k)
def bnds (b : Bd) (t : Rat) : List (Rat × Rat) := (List.range b.N).flatMap (b.bnd1 t)
theorem ub (b : Bd) (z t : Rat) (i : Nat) : cC (b.bnd1 t i) z = b.f z t i := by
 have key : ∀ m,cC ((List.range m).map fun k => (b.S i k - (b.C i + t * b.X i),b.M i k - bg (b.M i) k)) z = ak (cw (b.S i) (b.M i) (b.y z t i)) m := by
  intro m
  induction m with
  |zero => rfl
  |succ m ih =>
   rw [List.range_succ,List.map_append,fR,ih,ak,ji]
   simp only [List.map_cons,List.map_nil,cC]
   rw [show z - (b.S i m - (b.C i + t * b.X i)) = b.y z t i - b.S i m by rw [y];grind];grind
 exact key (b.n i)
theorem uc (b : Bd) (z t : Rat) : cC (b.bnds t) z = b.F z t := by
 have key : ∀ m,cC ((List.range m).flatMap (b.bnd1 t)) z = ak (b.f z t) m := by
  intro m
  induction m with
  |zero => rfl
  |succ m ih =>
   rw [List.range_succ,List.flatMap_append,fR,ih,ak]
   simp only [List.flatMap_cons,List.flatMap_nil,List.append_nil,ub]
 exact key b.N
theorem settled_least (h : b.Ok) {t : Rat} (hex : ∃ z,b.w ≤ b.F z t) {l : List (Rat × Rat)} (hp : l.Perm (b.bnds t)) (hs : l.Pairwise fun x y => x.1 ≤ y.1) : b.Least (tL b.w l 0 0 0) t := by
 refine zI (Φ := fun z => b.F z t) (fun x y hxy => yV h hxy) h.pos hex l [] 0 0 0 (fun z => ?_) hs (.inl ⟨rfl,rfl,rfl⟩)
 rw [sQ hp,uc,cC];grind
end Bd
def uQ (n : Nat) (S : Nat → Rat) (y : Rat) (k : Nat) : Rat := dZ (qC S n y k - S k)
def zy (n : Nat) (S M : Nat → Rat) (y : Rat) (k : Nat) : Rat := M k * (uQ n S y k * (y - S k) - uQ n S y k * uQ n S y k / 2)
def Be (n : Nat) (S M : Nat → Rat) (y : Rat) : Rat := ak (zy n S M y) n
namespace Bd
variable {b : Bd}
def U (b : Bd) (z t : Rat) : Rat := ak (fun i => Be (b.n i) (b.S i) (b.M i) (b.y z t i)) b.N - b.w * (z + t * b.A)
end Bd
def et (S M : Nat → Rat) (y : Rat) (k : Nat) : Rat := if y - S k < 0 then 0 else M k - bg M k
def we (n : Nat) (S M : Nat → Rat) (y : Rat) : Rat := ak (et S M y) n
theorem ya {c : CR} (hc : c.Lim) (q : Rat) (k : Nat) : HQ (et c.s c.m q k) 27 := by
 rw [et]
 split
 ·exact HQ.zero.mono (by omega)
 ·exact kV hc k
noncomputable def zT : Array Tmp × Code × Code := (jE ((Tryz.f174.body).getD .skip)).getD (#[],.skip,.skip)
set_option maxRecDepth 20000 in
theorem pl {s0 : St} {q0 q2 q3 g4 g7 b4 : Nat} {x2 x3 x1004 : Cont} {bf V0 V1 CH FA : RR} (hadd : Ret Tryz.prog .shared 106 [.agg (eR V0),.agg (eR CH)] (.agg (eR V1))) :
  rx Tryz.prog (s0.over [(7,.ptr 1007 g7 0 0)] []) q0 q2 q3 g4 g7 b4 19 20 zT.2.1 zT.2.2 x2 x3 x1004 bf V0 V1 CH FA := by
 intro own hf kf hPost
 have ho : own = (St.over { reg := fun _ => .raw undef,own := own } [] (yI q0 q2 q3 g4 g7 b4 (bD #[19,20] zT.2.1 zT.2.2 .ready none (s0.over [(7,.ptr 1007 g7 0 0)] []).reg) x2 x3 x1004 bf V0)).own := congrArg St.own (Fit.over hf).symm
 rw [ho]
 clear ho hf
 generalize (St.mk (fun _ => .raw undef) own) = s1
 repeat refine ac rfl ?_
 refine ⟨rfl,?_⟩
 repeat refine ac rfl ?_
 refine aq rfl rfl rfl hadd rfl rfl ?_
 repeat refine ac rfl ?_
 exact hPost _ ⟨rfl,rfl,rfl,rfl,rfl,rfl,trivial⟩
set_option maxRecDepth 20000 in
theorem tn (c : CR) (hc : c.Lim) (h0 : bp c = 0) (y : RR) {q : Rat} {n : Nat} [hy : Vq y q n] (hn : n ≤ 100000) : Ret Tryz.prog .shared 174 [.agg (eC c),.agg (eR y)] (.tup [.agg (eR (ofQ (we c.S.length c.s c.m q))),I 0]) := by
 have hcc := cY c hc
 rw [h0] at hcc
 obtain ⟨h40,hSM,-,hasc⟩ := cZ h0
 have hz := dl 0 (by decide) (by decide)
 rw [show (((0 : Int) : Rat)) = 0 from rfl] at hz
 have hsum : ∀ i,i ≤ 40 → Vq (ofQ (ak (et c.s c.m q) i)) (ak (et c.s c.m q) i) (i * (27 + 1) + 4) := fun i _ => Vq.ofQ (h := be i fun k _ => ya hc q k)
 refine Ret.of_pwpR layOk mixed Go.Proofs.Tryz.func174 rfl (by decide) rfl rfl rfl ?_
 repeat refine ac rfl ?_
 refine aT rfl rfl rfl hcc rfl rfl rfl ?_
 repeat refine ac rfl ?_
 refine aq rfl rfl rfl hz rfl rfl ?_
 (repeat ((fail_if_success (with_reducible refine aP 5 ?_));refine cF rfl ?_))
 refine aB (Ghost.move (k := 2) (k' := 1002) (t := 2) rfl rfl rfl rfl) ?_
 refine aB (Ghost.move (k := 3) (k' := 1003) (t := 3) rfl rfl rfl rfl) ?_
 refine aB (Ghost.move (k := 4) (k' := 1004) (t := 4) rfl rfl rfl rfl) ?_
 refine aB (Ghost.move (k := 7) (k' := 1007) (t := 7) rfl rfl rfl rfl) ?_
 ((repeat ((fail_if_success (with_reducible refine aP 5 ?_));refine cF rfl ?_));refine aE 2 ?_)
 iterate 2 refine ac rfl ?_
 refine aR ?_
 refine aV rfl (bX layOk rfl rfl Go.Proofs.Tryz.func162 rfl (by decide) rfl rfl ?_)
 (repeat ((fail_if_success (with_reducible refine aP 1 ?_));refine cF rfl ?_))
 refine aB (Ghost.move (k := 2) (k' := 2002) (t := 2) rfl rfl rfl rfl) ?_
 refine aB (Ghost.move (k := 3) (k' := 2003) (t := 3) rfl rfl rfl rfl) ?_
 repeat refine ac rfl ?_
 refine nr rfl rfl ?_
 refine aJ ?_
 repeat refine ac rfl ?_
 refine dJ [(7,.ptr 1007 1 0 0),(4,.ptr 1004 1 0 0),(18,.clo 191 [.ptr 2002 1 0 0,.ptr 2003 1 0 0])] [(2002,1,⟨120,2,[eC c],2⟩),(2003,1,⟨26,4,[eR y],2⟩),(1004,1,⟨26,4,[[.bool false,.nil,.bool false,.nil]],2⟩),(1007,1,⟨26,4,[eR (ofQ 0)],2⟩)] ⟨rfl,rfl,rfl,rfl,rfl,rfl,rfl,trivial⟩ ?_
 intro s3
 refine o9 (mE (ps := #[19,20]) (asg := zT.2.1) (body := zT.2.2) 2000 rfl Go.Proofs.Tryz.func191 rfl rfl rfl rfl rfl rfl ?_)
 generalize hq0 : (s3.own 2000).1 + 1 = q0
 refine k_ (q := q) (n := n) (q0 := q0) (q2 := 1) (q3 := 1) (g4 := 1) (g7 := 1) c hc y hy (by omega) hSM (fun i => ofQ (ak (et c.s c.m q) i)) _ ⟨by rw [← hq0];rfl,rfl,rfl,rfl,rfl,trivial⟩ ?_ ?_
 ·intro i hi hpos b4 bf
  have hadd := dj (ofQ (ak (et c.s c.m q) i)) (ofQ (c.m i - bg c.m i)) (hx := hsum i (by omega)) (hy := Vq.ofQ (h := kV hc i)) (by omega) (by decide)
  rw [show ak (et c.s c.m q) i + (c.m i - bg c.m i) = ak (et c.s c.m q) (i + 1) by rw [ak,et,if_neg hpos]] at hadd
  exact pl (s0 := s3.over [(4,.ptr 1004 1 0 0),(18,.clo 191 [.ptr 2002 1 0 0,.ptr 2003 1 0 0])] []) hadd
 ·intro i hi hor b4 bf s2 hf
  have hres : ak (et c.s c.m q) i = we c.S.length c.s c.m q := mD hasc (fun k hk => by rw [et,if_pos hk]) hi hor
  dsimp only at hf
  rw [hres] at hf
  rw [← Fit.over (l := []) hf]
  repeat refine ac rfl ?_
  exact aF rfl rfl rfl
def Weak (a b : PV) : Prop := ∀ (w : World) (ok : Nat → Prop) (v : Value),DRep w ok a v → DRep w ok b v
theorem Weak.rfl (a : PV) : Weak a a := fun _ _ _ h => h
theorem Weak.nil : Weak .nil (.sl []) := fun w ok v h => by cases h;exact .sl0 none 0
inductive WeakL : List PV → List PV → Prop
 |nil : WeakL [] []
 |cons {a b : PV} {l m : List PV} : Weak a b → WeakL l m → WeakL (a :: l) (b :: m)
theorem WeakL.refl : ∀ l,WeakL l l
 |[] => .nil
 |a :: l => .cons (.rfl a) (WeakL.refl l)
theorem WeakL.spec {l m : List PV} (h : WeakL l m) : l.length = m.length ∧ ∀ (i : Nat) (b : PV),m[i]? = some b → ∃ a,l[i]? = some a ∧ Weak a b := by
 induction h with
 |nil => exact ⟨by rfl,fun i b hb => by simp at hb⟩
 |cons h1 _ ih =>
  refine ⟨by simp [ih.1],fun i b hb => ?_⟩
  cases i with
  |zero => simp at hb;subst hb;exact ⟨_,by rfl,h1⟩
  |succ i => simpa using ih.2 i b (by simpa using hb)
theorem WeakL.agg {l m : List PV} (h : WeakL l m) : Weak (.agg l) (.agg m) := fun w ok v hv => by
 cases hv with
 |agg _ vs hl hd =>
  refine .agg _ vs (by rw [← h.spec.1];exact hl) fun i c u hc hu => ?_
  obtain ⟨a,ha,hw⟩ := h.spec.2 i c hc
  exact hw _ _ _ (hd i a u ha hu)
theorem WeakL.tup {l m : List PV} (h : WeakL l m) : Weak (.tup l) (.tup m) := fun w ok v hv => by
 cases hv with
 |tup _ vs hl hd =>
  refine .tup _ vs (by rw [← h.spec.1];exact hl) fun i c u hc hu => ?_
  obtain ⟨a,ha,hw⟩ := h.spec.2 i c hc
  exact hw _ _ _ (hd i a u ha hu)
theorem Ret.weak {P : Program} {m : Mode} {f : FuncId} {pargs pargs' : List PV} {r r' : PV} (h : Ret P m f pargs r') (ha : WeakL pargs' pargs) (hr : Weak r' r) : Ret P m f pargs' r := by
 obtain ⟨hc,h⟩ := h
 refine ⟨hc,fun w X args hg hX hl hargs => ?_⟩
 refine (h w X args hg hX (by rw [← ha.spec.1];exact hl) fun i c v e1 e2 => ?_).mono ?_
 ·obtain ⟨a,e3,hw⟩ := ha.spec.2 i c e1
  exact hw _ _ _ (hargs i a v e3 e2)
 ·rintro e w' ⟨u,h1,h2,h3⟩
  exact ⟨u,h1,h2,hr _ _ _ h3⟩
def zN : List PV := [.bool false,.nil,.bool false,.nil]
theorem gr : WeakL zN (eR RR.zero) := .cons (.rfl _) (.cons .nil (.cons (.rfl _) (.cons .nil .nil)))
theorem aS (z : Int) (h : i64 z) : Ret Tryz.prog .shared 95 [I z] (.agg (eR (ofQ (z : Rat)))) := by
 have ho := u_ z h.1 h.2
 have hw := mS (bz z) (by have := kW (z := z) (by obtain ⟨h1,h2⟩ := h;omega);omega)
 rw [bu] at hw
 generalize ofQ (z : Rat) = X at *
 generalize bz z = Z at *
 refine Ret.of_pwp layOk mixed Go.Proofs.Tryz.func95 rfl (by decide) rfl rfl ?_
 repeat refine ac rfl ?_
 refine aq rfl rfl rfl ho rfl rfl ?_
 repeat refine ac rfl ?_
 refine aq rfl rfl rfl hw rfl rfl ?_
 repeat refine ac rfl ?_
 exact aF rfl rfl rfl
theorem lr (x : RR) {p : Rat} {n : Nat} [hx : Vq x p n] (hn : n ≤ 8000000) : Ret Tryz.prog .shared 98 [.agg (eR x)] (I (sgn p)) := by
 have hc := nf x RR.zero hn (by decide)
 rw [Rat.sub_eq_add_neg,Rat.neg_zero,Rat.add_zero] at hc
 have hc2 := hc.weak (.cons (.rfl _) (.cons gr.agg .nil)) (.rfl _)
 generalize sgn p = g at *
 refine Ret.of_pwp layOk mixed Go.Proofs.Tryz.func98 rfl (by decide) rfl rfl ?_
 repeat refine ac rfl ?_
 refine aT rfl rfl rfl hc2 rfl rfl rfl ?_
 repeat refine ac rfl ?_
 exact aO rfl rfl rfl
theorem mt (x y : RR) {p q : Rat} {n m : Nat} [hx : Vq x p n] [hy : Vq y q m] (hn : n ≤ 20000000) (hm : m ≤ 20000000) (h0 : q ≠ 0) : Ret Tryz.prog .shared 99 [.agg (eR x),.agg (eR y)] (.agg (eR (ofQ (p / q)))) := by
 have hq := vE x y hn hm
 rw [if_neg h0] at hq
 generalize ofQ (p / q) = X at *
 refine Ret.of_pwp layOk mixed Go.Proofs.Tryz.func99 rfl (by decide) rfl rfl ?_
 repeat refine ac rfl ?_
 refine aq rfl rfl rfl hq rfl rfl ?_
 repeat refine ac rfl ?_
 exact aF rfl rfl rfl
theorem As (x : RR) {p : Rat} {n : Nat} [hx : Vq x p n] (hn : n ≤ 10000000) : Ret Tryz.prog .shared 166 [.agg (eR x)] (.agg (eR (ofQ (-p)))) := by
 have hs := js RR.zero x (by decide) hn
 rw [Rat.sub_eq_add_neg,Rat.zero_add] at hs
 have hs2 := hs.weak (.cons gr.agg (.cons (.rfl _) .nil)) (.rfl _)
 generalize ofQ (-p) = X at *
 refine Ret.of_pwp layOk mixed Go.Proofs.Tryz.func166 rfl (by decide) rfl rfl ?_
 repeat refine ac rfl ?_
 refine aq rfl rfl rfl hs2 rfl rfl ?_
 repeat refine ac rfl ?_
 exact aF rfl rfl rfl
theorem pW (x : RR) {p : Rat} {n : Nat} [hx : Vq x p n] (hn : n ≤ 10000000) : Ret Tryz.prog .shared 171 [.agg (eR x)] (.agg (eR (ofQ p))) := by
 have hs := dj x RR.zero (by omega) (by decide)
 rw [Rat.add_zero] at hs
 have hs2 := hs.weak (.cons (.rfl _) (.cons gr.agg .nil)) (.rfl _)
 generalize ofQ p = X at *
 refine Ret.of_pwp layOk mixed Go.Proofs.Tryz.func171 rfl (by decide) rfl rfl ?_
 repeat refine ac rfl ?_
 refine aq rfl rfl rfl hs2 rfl rfl ?_
 repeat refine ac rfl ?_
 exact aF rfl rfl rfl
structure SR.Lim (s : SR) : Prop where
 x : i64 s.x
 c : s.c.sz 12
 k : s.k.Lim
def yQ (s : SR) (z t : Rat) : Rat := s.c.val + (z + t * (s.x : Rat))
theorem rT {s : SR} (hs : s.Lim) {z t : Rat} {n m : Nat} (hz : HQ z n) (ht : HQ t m) : HQ (yQ s z t) (13 + (n + (m + 4) + 1) + 1) := by
 have hx : Zb s.x := aN hs.x.1 hs.x.2
 exact @HQ.add _ _ 13 (n + (m + 4) + 1) hs.c.v.hq (@HQ.add _ _ n (m + 4) hz (@HQ.mul _ _ m 4 ht HQ.int))
structure AR where
 z : RR
 t : RR
def eA (a : AR) : List PV := eR a.z ++ eR a.t
class Va (a : AR) (z t : outParam Rat) (n m : outParam Nat) : Prop where
 z : Vq a.z z n
 t : Vq a.t t m
theorem i9 (s : SR) (hs : s.Lim) (a : AR) {z t : Rat} {n m : Nat} [ha : Va a z t n m] (hn : n ≤ 1000000) (hm : m ≤ 1000000) : Ret Tryz.prog .shared 85 [.agg (eS s),.agg (eA a)] (.agg (eR (ofQ (yQ s z t)))) := by
 have hx : Zb s.x := aN hs.x.1 hs.x.2
 have hzh := ha.z.hq
 have hth := ha.t.hq
 have hw := aS s.x hs.x
 have h1 := dV a.t (ofQ (s.x : Rat)) (hx := ha.t) (by omega) (by decide)
 have v1 : Vq (ofQ (t * (s.x : Rat))) (t * (s.x : Rat)) (m + 1 + 4) := Vq.ofQ (h := @HQ.mul _ _ (m + 1) 4 hth HQ.int)
 have h2 := dj a.z (ofQ (t * (s.x : Rat))) (hx := ha.z) (hy := v1) (by omega) (by omega)
 have v2 : Vq (ofQ (z + t * (s.x : Rat))) (z + t * (s.x : Rat)) (n + 1 + (m + 1 + 4) + 1) := Vq.ofQ (h := @HQ.add _ _ (n + 1) (m + 1 + 4) hzh (@HQ.mul _ _ (m + 1) 4 hth HQ.int))
 have h3 := dj s.c (ofQ (z + t * (s.x : Rat))) (hx := hs.c.v) (hy := v2) (by decide) (by omega)
 rw [yQ]
 obtain ⟨x,c,k⟩ := s
 obtain ⟨az,at'⟩ := a
 simp only at *
 generalize ofQ (c.val + (z + t * (x : Rat))) = X3 at *
 generalize ofQ (z + t * (x : Rat)) = X2 at *
 generalize ofQ (t * (x : Rat)) = X1 at *
 generalize ofQ (x : Rat) = X0 at *
 refine Ret.of_pwp layOk mixed Go.Proofs.Tryz.func85 rfl (by decide) rfl rfl ?_
 repeat refine ac rfl ?_
 refine am 12 [5,6,7,8,9,10,11,12,13,14,15,16] (by decide +kernel) ?_
 repeat refine ac rfl ?_
 refine aq rfl rfl rfl hw rfl rfl ?_
 repeat refine ac rfl ?_
 refine aq rfl rfl rfl h1 rfl rfl ?_
 repeat refine ac rfl ?_
 refine aq rfl rfl rfl h2 rfl rfl ?_
 repeat refine ac rfl ?_
 refine aq rfl rfl rfl h3 rfl rfl ?_
 repeat refine ac rfl ?_
 exact aF rfl rfl rfl
def fQ (s : SR) (z t : Rat) : Rat := fG s.k.S.length s.k.s s.k.m (yQ s z t)
theorem sB (s : SR) (hs : s.Lim) (hk : bp s.k = 0) (a : AR) {z t : Rat} {n m : Nat} [ha : Va a z t n m] (hn : n + m ≤ 90000) : Ret Tryz.prog .shared 83 [.agg (eS s),.agg (eA a)] (.agg (eR (ofQ (fQ s z t)))) := by
 have h1 := i9 s hs a (by omega) (by omega)
 have v1 : Vq (ofQ (yQ s z t)) (yQ s z t) (13 + (n + 1 + (m + 1 + 4) + 1) + 1) := Vq.ofQ (h := rT hs ha.z.hq ha.t.hq)
 have h2 := tE s.k hs.k hk (ofQ (yQ s z t)) (hy := v1) (by omega)
 rw [fQ]
 generalize ofQ (fG s.k.S.length s.k.s s.k.m (yQ s z t)) = X2 at *
 generalize ofQ (yQ s z t) = X1 at *
 obtain ⟨x,c,k⟩ := s
 obtain ⟨az,at'⟩ := a
 simp only at *
 refine Ret.of_pwp layOk mixed Go.Proofs.Tryz.func83 rfl (by decide) rfl rfl ?_
 repeat refine ac rfl ?_
 refine bM [5] [9,10] (by decide +kernel) ?_
 repeat refine ac rfl ?_
 refine aq rfl rfl rfl h1 rfl rfl ?_
 repeat refine ac rfl ?_
 refine aq rfl rfl rfl h2 rfl rfl ?_
 repeat refine ac rfl ?_
 exact aF rfl rfl rfl
theorem nk (x : Int) : Ret Tryz.prog .shared 76 [I x] (.bool (decide (x < -1000000 ∨ 1000000 < x))) := by
 by_cases h1 : x < -1000000
 ·rw [decide_eq_true (.inl h1)]
  refine Ret.of_pwp layOk mixed Go.Proofs.Tryz.func76 rfl (by decide) rfl rfl ?_
  repeat refine ac rfl ?_
  refine cb rfl rfl rfl ?_ ?_<;>intro h
  ·repeat refine ac rfl ?_
   exact bj rfl rfl rfl
  ·exact absurd h1 (of_decide_eq_false h)
 ·rw [show decide (x < -1000000 ∨ 1000000 < x) = decide (1000000 < x) by rw [decide_eq_decide];omega]
  refine Ret.of_pwp layOk mixed Go.Proofs.Tryz.func76 rfl (by decide) rfl rfl ?_
  repeat refine ac rfl ?_
  refine cb rfl rfl rfl ?_ ?_<;>intro h
  ·exact absurd (of_decide_eq_true h) h1
  ·repeat refine ac rfl ?_
   exact bj rfl rfl rfl
theorem kq (x : RR) {p : Rat} {m : Nat} [hx : Vq x p m] (hm : m ≤ 1000000) (n : Int) (h0 : 0 ≤ n) (h1 : n ≤ 1000000000) : Ret Tryz.prog .shared 77 [.agg (eR x),I n] (.bool (decide (p < -(n : Rat) ∨ (n : Rat) < p))) := by
 have hw1 := aS (-n) ⟨by omega,by omega⟩
 have hw2 := aS n ⟨by omega,by omega⟩
 have z1 : Zb (-n) := aN (by omega) (by omega)
 have z2 : Zb n := aN (by omega) (by omega)
 have hc1 := nf x (ofQ ((-n : Int) : Rat)) (by omega) (by decide)
 have hc2 := nf x (ofQ (n : Rat)) (by omega) (by decide)
 have hn : IntKind.i64.wrap (0 - n) = -n := by rw [wrap_i64 (by omega) (by omega)];omega
 have e1 := d9 (p - ((-n : Int) : Rat))
 have e2 := fW (p - (n : Rat))
 have en : (((-n : Int)) : Rat) = -(n : Rat) := by push_cast;rfl
 have key : decide (p < -(n : Rat) ∨ (n : Rat) < p) = (decide (sgn (p - ((-n : Int) : Rat)) < 0) || decide (0 < sgn (p - (n : Rat)))) := by
  rw [← Bool.decide_or,decide_eq_decide,e1,e2,en]
  constructor
  ·rintro (h | h)
   ·left;grind
   ·right;grind
  ·rintro (h | h)
   ·left;grind
   ·right;grind
 rw [key]
 generalize sgn (p - ((-n : Int) : Rat)) = g1 at *
 generalize sgn (p - (n : Rat)) = g2 at *
 generalize ofQ ((-n : Int) : Rat) = W1 at *
 generalize ofQ (n : Rat) = W2 at *
 refine Ret.of_pwp layOk mixed Go.Proofs.Tryz.func77 rfl (by decide) rfl rfl ?_
 repeat refine ac rfl ?_
 refine am 14 [5,6,7,8,9,10,11,12,13,14,15,16,17,4] (by decide +kernel) ?_
 repeat refine ac rfl ?_
 rw [hn]
 refine aq rfl rfl rfl hw1 rfl rfl ?_
 repeat refine ac rfl ?_
 refine aT rfl rfl rfl hc1 rfl rfl rfl ?_
 repeat refine ac rfl ?_
 refine cb rfl rfl rfl ?_ ?_<;>intro h
 ·rw [h]
  clear h
  repeat refine ac rfl ?_
  exact bj rfl rfl rfl
 ·rw [h]
  clear h
  repeat refine ac rfl ?_
  refine aq rfl rfl rfl hw2 rfl rfl ?_
  repeat refine ac rfl ?_
  refine aT rfl rfl rfl hc2 rfl rfl rfl ?_
  repeat refine ac rfl ?_
  exact bj rfl rfl rfl
def bK {α : Type} (f : α → Int) : List α → Int
 |[] => 0
 |s :: r => if f s = 0 then bK f r else f s
theorem jF {α : Type} (f : α → Int) {l : List α} {i : Nat} {s : α} (h : l[i]? = some s) : bK f (l.drop i) = if f s = 0 then bK f (l.drop (i + 1)) else f s := by
 obtain ⟨hl,rfl⟩ := List.getElem?_eq_some_iff.1 h
 rw [List.drop_eq_getElem_cons hl,bK]
theorem gU {α : Type} {f : α → Int} : ∀ {l : List α},bK f l = 0 → ∀ s ∈ l,f s = 0
 |[],_,s,hs => by cases hs
 |a :: l,h,s,hs => by
  rw [bK] at h
  by_cases ha : f a = 0
  ·rw [if_pos ha] at h
   rcases List.mem_cons.1 hs with rfl | hs
   ·exact ha
   ·exact gU h s hs
  ·rw [if_neg ha] at h;exact absurd h ha
def dL (s : SR) : Int := if (s.x < -1000000 ∨ 1000000 < s.x) ∨ (s.c.val < -((10000000 : Int) : Rat) ∨ ((10000000 : Int) : Rat) < s.c.val) then 2 else bp s.k
def br (l : List SR) : Int := if 100 < l.length then 8 else bK dL l
def fE (l : List SR) : Prop := (∀ s ∈ l,s.Lim) ∧ l.length ≤ 1000000000
set_option maxRecDepth 20000 in
theorem l7 (l : List SR) (hl : fE l) : Ret Tryz.prog .shared 18 [.sl (l.map eS)] (I (br l)) := by
 have hml : (l.map eS).length = l.length := by simp
 generalize hE : br l = E
 rw [br] at hE
 obtain ⟨hs,hll⟩ := hl
 refine Ret.of_pwp layOk mixed Go.Proofs.Tryz.func18 rfl (by decide) rfl rfl ?_
 repeat refine ac rfl ?_
 refine ae rfl ?_ ?_<;>intro h
 ·have h1 := of_decide_eq_true h
  rw [if_pos (by omega)] at hE
  subst hE
  repeat refine ac rfl ?_
  exact aO rfl rfl rfl
 have h1 : ¬ 100 < l.length := by have h1 := of_decide_eq_false h;omega
 clear h
 rw [if_neg h1] at hE
 repeat refine ac rfl ?_
 refine ax (fun i : Nat => i ≤ l.length ∧ bK dL (l.drop i) = E) (fun i => [(9,.sl (l.map eS)),(10,I l.length),(11,I (i : Nat))]) (fun _ => []) (fun i => l.length - i) 0 ⟨Nat.zero_le _,by rw [List.drop_zero];exact hE⟩ ⟨rfl,by rw [← hml];rfl,rfl,trivial⟩ ?_
 intro i s ⟨hi,hF⟩
 repeat refine ac rfl ?_
 refine ae rfl ?_ ?_<;>intro h
 ·have hlt : i < l.length := by have := of_decide_eq_true h;omega
  clear h
  obtain ⟨x,hx⟩ := aM hlt
  have hx' := hs x (List.mem_of_getElem? hx)
  rw [jF _ hx] at hF
  have hfa := nk x.x
  have hbe := kq x.c (hx := hx'.c.v) (by decide) 10000000 (by decide) (by decide)
  have hcc := cY x.k hx'.k
  have hw := f7 i
  have hse : dL x = dL x := rfl
  conv at hse => rhs;rw [dL]
  generalize dL x = se at *
  generalize bp x.k = ce at *
  by_cases hq1 : x.x < -1000000 ∨ 1000000 < x.x
  ·rw [decide_eq_true hq1] at hfa
   rw [if_pos (.inl hq1)] at hse
   subst hse
   rw [if_neg (by decide)] at hF
   subst hF
   repeat refine ac rfl ?_
   refine bm rfl rfl rfl rfl rfl rfl rfl hx rfl ?_
   repeat refine ac rfl ?_
   refine aT rfl rfl rfl hfa rfl rfl rfl ?_
   repeat refine ac rfl ?_
   exact aO rfl rfl rfl
  rw [decide_eq_false hq1] at hfa
  by_cases hq2 : x.c.val < -((10000000 : Int) : Rat) ∨ ((10000000 : Int) : Rat) < x.c.val
  ·rw [decide_eq_true hq2] at hbe
   rw [if_pos (.inr hq2)] at hse
   subst hse
   rw [if_neg (by decide)] at hF
   subst hF
   repeat refine ac rfl ?_
   refine bm rfl rfl rfl rfl rfl rfl rfl hx rfl ?_
   repeat refine ac rfl ?_
   refine aT rfl rfl rfl hfa rfl rfl rfl ?_
   repeat refine ac rfl ?_
   refine aT rfl rfl rfl hbe rfl rfl rfl ?_
   repeat refine ac rfl ?_
   exact aO rfl rfl rfl
  rw [decide_eq_false hq2] at hbe
  rw [if_neg (fun h => h.elim hq1 hq2)] at hse
  subst hse
  repeat refine ac rfl ?_
  refine bm rfl rfl rfl rfl rfl rfl rfl hx rfl ?_
  repeat refine ac rfl ?_
  refine aT rfl rfl rfl hfa rfl rfl rfl ?_
  repeat refine ac rfl ?_
  refine aT rfl rfl rfl hbe rfl rfl rfl ?_
  repeat refine ac rfl ?_
  refine aT rfl rfl rfl hcc rfl rfl rfl ?_
  repeat refine ac rfl ?_
  refine ae rfl ?_ ?_<;>intro h
  ·have h2 : se ≠ 0 := by simpa using h
   clear h
   rw [if_neg h2] at hF
   subst hF
   repeat refine ac rfl ?_
   exact aO rfl rfl rfl
  ·have h2 : se = 0 := by simpa using h
   clear h
   rw [if_pos h2] at hF
   repeat refine ac rfl ?_
   exact ⟨i + 1,⟨by omega,hF⟩,by omega,rfl,rfl,congrArg I hw,trivial⟩
 ·have hie : i = l.length := by have := of_decide_eq_false h;omega
  clear h
  rw [hie,List.drop_length,bK] at hF
  subst hF
  repeat refine ac rfl ?_
  exact aO rfl rfl rfl
theorem cq {α : Type} {l : List α} {k : Nat} {x : α} (hx : l[k]? = some x) : l.take (k + 1) = l.take k ++ [x] := by
 rw [List.take_add_one,hx];rfl
structure BR.Lim (b : BR) : Prop where
 w : i64 b.w
 a : b.a.sz 12
 l : fE b.l
def aH (b : BR) : Int := if (b.w < 1 ∨ 1000000000 < b.w) ∨ (b.a.val < -((1000000 : Int) : Rat) ∨ ((1000000 : Int) : Rat) < b.a.val) then 2 else br b.l
theorem bh (b : BR) (hb : b.Lim) : Ret Tryz.prog .shared 20 [.agg (eB b)] (I (aH b)) := by
 have hbe := kq b.a (hx := hb.a.v) (by decide) 1000000 (by decide) (by decide)
 have hc := l7 b.l hb.l
 generalize hE : aH b = E
 rw [aH] at hE
 obtain ⟨w,a,l⟩ := b
 simp only at *
 generalize br l = ce at *
 by_cases h1 : w < 1
 ·rw [if_pos (.inl (.inl h1))] at hE
  subst hE
  refine Ret.of_pwp layOk mixed Go.Proofs.Tryz.func20 rfl (by decide) rfl rfl ?_
  repeat refine ac rfl ?_
  refine cb rfl rfl rfl ?_ ?_<;>intro h
  ·repeat refine ac rfl ?_
   exact aO rfl rfl rfl
  ·exact absurd h1 (of_decide_eq_false h)
 by_cases h2 : 1000000000 < w
 ·rw [if_pos (.inl (.inr h2))] at hE
  subst hE
  refine Ret.of_pwp layOk mixed Go.Proofs.Tryz.func20 rfl (by decide) rfl rfl ?_
  repeat refine ac rfl ?_
  refine cb rfl rfl rfl ?_ ?_<;>intro h
  ·repeat refine ac rfl ?_
   exact aO rfl rfl rfl
  ·clear h
   repeat refine ac rfl ?_
   refine cb rfl rfl rfl ?_ ?_<;>intro h
   ·repeat refine ac rfl ?_
    exact aO rfl rfl rfl
   ·exact absurd h2 (of_decide_eq_false h)
 by_cases h3 : a.val < -((1000000 : Int) : Rat) ∨ ((1000000 : Int) : Rat) < a.val
 ·rw [decide_eq_true h3] at hbe
  rw [if_pos (.inr h3)] at hE
  subst hE
  refine Ret.of_pwp layOk mixed Go.Proofs.Tryz.func20 rfl (by decide) rfl rfl ?_
  repeat refine ac rfl ?_
  refine cb rfl rfl rfl ?_ ?_<;>intro h
  ·repeat refine ac rfl ?_
   exact aO rfl rfl rfl
  ·clear h
   repeat refine ac rfl ?_
   refine cb rfl rfl rfl ?_ ?_<;>intro h
   ·repeat refine ac rfl ?_
    exact aO rfl rfl rfl
   ·clear h
    repeat refine ac rfl ?_
    refine aT rfl rfl rfl hbe rfl rfl rfl ?_
    repeat refine ac rfl ?_
    exact aO rfl rfl rfl
 ·rw [decide_eq_false h3] at hbe
  rw [if_neg (fun h => h.elim (fun h => h.elim h1 h2) h3)] at hE
  subst hE
  refine Ret.of_pwp layOk mixed Go.Proofs.Tryz.func20 rfl (by decide) rfl rfl ?_
  repeat refine ac rfl ?_
  refine cb rfl rfl rfl ?_ ?_<;>intro h
  ·exact absurd (of_decide_eq_true h) h1
  ·clear h
   repeat refine ac rfl ?_
   refine cb rfl rfl rfl ?_ ?_<;>intro h
   ·exact absurd (of_decide_eq_true h) h2
   ·clear h
    repeat refine ac rfl ?_
    refine aT rfl rfl rfl hbe rfl rfl rfl ?_
    repeat refine ac rfl ?_
    refine aT rfl rfl rfl hc rfl rfl rfl ?_
    repeat refine ac rfl ?_
    exact aO rfl rfl rfl
set_option maxRecDepth 20000 in
theorem lK (l : List SR) (hl : fE l) (hc : br l = 0) (f : FuncId) (caps : List PV) (hcaps : ∃ c,caps = [.dref c 0]) (g : SR → RR) (hg : ∀ s ∈ l,Ret Tryz.prog .shared f [.agg (eS s),caps.headD .nil] (.agg (eR (g s)))) :
  Ret Tryz.prog .shared 81 [.sl (l.map eS),.clo f caps] (.tup [.sl ((l.map g).map eR),I 0]) := by
 have hck := l7 l hl
 rw [hc] at hck
 have hml : (l.map eS).length = l.length := by simp
 obtain ⟨cc,rfl⟩ := hcaps
 simp only [List.headD_cons] at hg
 refine Ret.of_pwp layOk mixed Go.Proofs.Tryz.func81 rfl (by decide) rfl rfl ?_
 repeat refine ac rfl ?_
 refine aT rfl rfl rfl hck rfl rfl rfl ?_
 repeat refine ac rfl ?_
 refine aB (Ghost.nilreg (k := 7) (t := 7) 26 4 1 rfl rfl) ?_
 have hrows : ∀ (k : Nat) x,l[k]? = some x → ((l.take (k + 1)).map g).map eR = ((l.take k).map g).map eR ++ [eR (g x)] := fun k x hx => by rw [cq hx,List.map_append,List.map_append];rfl
 refine ax (fun k => k ≤ l.length) (fun k => [(1,.clo f [.dref cc 0]),(7,.als 7 (k + 1) 0 (((l.take k).map g).map eR).length),(15,.sl (l.map eS)),(16,I l.length),(17,I k)]) (fun k => [(7,k + 1,⟨26,4,((l.take k).map g).map eR,1⟩)]) (fun k => l.length - k) 0 (Nat.zero_le _) ⟨rfl,rfl,rfl,by rw [← hml];rfl,rfl,rfl,trivial⟩ ?_
 intro k s hk
 repeat refine ac rfl ?_
 refine ae rfl ?_ ?_<;>intro h
 ·have hlt : k < l.length := by have := of_decide_eq_true h;omega
  clear h
  obtain ⟨x,hx⟩ := aM hlt
  have hgx := hg x (List.mem_of_getElem? hx)
  have hw : IntKind.i64.wrap (((k : Nat) : Int) + 1) = ((k + 1 : Nat) : Int) := by have := hl.2;rw [wrap_i64 (by omega) (by omega)];omega
  have hll := hl.2
  repeat refine ac rfl ?_
  refine bm rfl rfl rfl rfl rfl rfl rfl hx rfl ?_
  repeat refine ac rfl ?_
  refine aq rfl rfl rfl hgx rfl rfl ?_
  repeat refine ac rfl ?_
  refine ay (bb 1 rfl rfl rfl rfl rfl rfl rfl rfl rfl rfl rfl (by repeat' constructor) rfl ?_)
  repeat refine ac rfl ?_
  refine ay (bC 1 rfl rfl rfl rfl rfl rfl rfl rfl rfl rfl rfl (by repeat' constructor) (by intro row hr;first | (simp at hr;subst hr;rfl) | simp at hr) rfl rfl (by simp;omega) (by simp;omega) ?_)
  repeat refine ac rfl ?_
  refine ⟨k + 1,hlt,by omega,rfl,?_,rfl,rfl,congrArg I hw,?_,trivial⟩
  ·rw [hrows k x hx];rfl
  ·rw [hrows k x hx];rfl
 ·have hge : k = l.length := by have := of_decide_eq_false h;omega
  clear h
  repeat refine ac rfl ?_
  exact pQ rfl (by repeat' constructor) rfl (by repeat' constructor) (by rw [hge,List.take_length];rfl)
theorem oB (s : SR) (hs : s.Lim) (hk : bp s.k = 0) (a : AR) {z t : Rat} {n m : Nat} [ha : Va a z t n m] (hn : n + m ≤ 90000) : Ret Tryz.prog .shared 82 [.agg (eS s),.dref (eA a) 0] (.agg (eR (ofQ (fQ s z t)))) := by
 have h1 := sB s hs hk a hn
 generalize ofQ (fQ s z t) = X at *
 obtain ⟨x,c,k⟩ := s
 obtain ⟨az,at'⟩ := a
 try simp only at *
 refine Ret.of_pwp layOk mixed Go.Proofs.Tryz.func82 rfl (by decide) rfl rfl ?_
 repeat refine ac rfl ?_
 refine aq rfl rfl rfl h1 rfl rfl ?_
 repeat refine ac rfl ?_
 exact aF rfl rfl rfl
theorem bZ {l : List SR} (h : br l = 0) : ∀ s ∈ l,bp s.k = 0 := by
 intro s hs
 rw [br] at h
 split at h
 ·omega
 ·have := gU h s hs
  rw [dL] at this
  split at this
  ·omega
  ·exact this
def FL (l : List SR) (z t : Rat) : List RR := l.map fun s => ofQ (fQ s z t)
theorem kH (l : List SR) (hl : fE l) (hc : br l = 0) (a : AR) {z t : Rat} {n m : Nat} [ha : Va a z t n m] (hn : n + m ≤ 90000) : Ret Tryz.prog .shared 23 [.sl (l.map eS),.agg (eA a)] (.tup [.sl ((FL l z t).map eR),I 0]) := by
 have h1 := lK l hl hc 82 [.dref (eA a) 0] ⟨_,rfl⟩ (fun s => ofQ (fQ s z t)) fun s hs => oB s (hl.1 s hs) (bZ hc s hs) a hn
 rw [← FL] at h1
 generalize FL l z t = X at *
 obtain ⟨az,at'⟩ := a
 refine Ret.of_pwp layOk mixed Go.Proofs.Tryz.func23 rfl (by decide) rfl rfl ?_
 (repeat ((fail_if_success (with_reducible refine aP 1 ?_));refine cF rfl ?_))
 refine aB (Ghost.data (k := 3) (t := 3) rfl rfl rfl rfl) ?_
 repeat refine ac rfl ?_
 refine aq rfl rfl rfl h1 rfl rfl ?_
 repeat refine ac rfl ?_
 exact aF rfl rfl rfl
def n3 (l : List SR) : Prop := l.length ≤ 12 ∧ ∀ s ∈ l,s.k.S.length ≤ 8
theorem uD {s : SR} (hs : s.Lim) (h8 : s.k.S.length ≤ 8) {z t : Rat} {n m : Nat} (hz : HQ z n) (ht : HQ t m) : HQ (fQ s z t) (8 * (n + m + 60) + 4) := by
 rw [fQ,fG]
 exact (be s.k.S.length fun k _ => rq hs.k (rT hs hz ht) k).mono (by have := Nat.mul_le_mul h8 (show 13 + (n + (m + 4) + 1) + 1 + 32 + 1 ≤ n + m + 60 by omega);omega)
def dS : SR := ⟨0,RR.zero,⟨[],[]⟩⟩
def bd (b : BR) : Bd := { N := b.l.length,X := fun i => ((b.l.getD i dS).x : Rat),C := fun i => (b.l.getD i dS).c.val,n := fun i => (b.l.getD i dS).k.S.length,S := fun i => (b.l.getD i dS).k.s,M := fun i => (b.l.getD i dS).k.m,w := b.w,A := b.a.val }
def fI (l : List SR) (z t : Rat) (i : Nat) : Rat := fQ (l.getD i dS) z t
def gI (l : List SR) (z t : Rat) (i : Nat) : Rat := fQ (l.getD i dS) z t * ((l.getD i dS).x : Rat)
theorem aK {l : List SR} {i : Nat} (h : i < l.length) : l.getD i dS ∈ l := List.mem_of_getElem? (aW h)
set_option maxRecDepth 20000 in
theorem tB (l : List SR) (hl : fE l) (hf : n3 l) {z t : Rat} {n m : Nat} (hz : HQ z n) (ht : HQ t m) (hn : n + m ≤ 100000) : Ret Tryz.prog .shared 130 [.sl (l.map eS),.sl ((FL l z t).map eR)] (.agg (eR (ofQ (ak (fI l z t) l.length)) ++ eR (ofQ (ak (gI l z t) l.length)))) := by
 have hw0 := aS 0 ⟨by decide,by decide⟩
 rw [show (((0 : Int) : Rat)) = 0 from rfl] at hw0
 have hml : (l.map eS).length = l.length := by simp
 have hFl : ((FL l z t).map eR).length = l.length := by simp [FL]
 have hFH : ∀ i,i < l.length → HQ (fI l z t i) (8 * (n + m + 60) + 4) := fun i hi => uD (hl.1 _ (aK hi)) (hf.2 _ (aK hi)) hz ht
 have hGH : ∀ i,i < l.length → HQ (gI l z t i) (8 * (n + m + 60) + 4 + 4) := fun i hi => by
  have hx := (hl.1 _ (aK hi)).x
  have hx : Zb (l.getD i dS).x := aN hx.1 hx.2
  exact @HQ.mul _ _ _ 4 (hFH i hi) HQ.int
 have hB : ∀ i,i ≤ l.length → i * (8 * (n + m + 60) + 4 + 4 + 1) + 4 ≤ 12000000 := fun i hi => by
  have := hf.1
  have := Nat.mul_le_mul (show i ≤ 12 by omega) (show 8 * (n + m + 60) + 4 + 4 + 1 ≤ 800489 by omega)
  omega
 refine Ret.of_pwp layOk mixed Go.Proofs.Tryz.func130 rfl (by decide) rfl rfl ?_
 repeat refine ac rfl ?_
 refine aq rfl rfl rfl hw0 rfl rfl ?_
 repeat refine ac rfl ?_
 refine aq rfl rfl rfl hw0 rfl rfl ?_
 repeat refine ac rfl ?_
 refine ax (fun i : Nat => i ≤ l.length) (fun i => [(1,.sl ((FL l z t).map eR)),(4,.ptr 4 1 0 0),(5,.ptr 5 1 0 0),(11,.sl (l.map eS)),(12,I l.length),(13,I (i : Nat))])
  (fun i => [(4,1,⟨90,8,[zN ++ zN],2⟩),(5,1,⟨90,8,[eR (ofQ (ak (fI l z t) i)) ++ eR (ofQ (ak (gI l z t) i))],2⟩)]) (fun i => l.length - i) 0 (Nat.zero_le _) ⟨rfl,rfl,rfl,rfl,by rw [← hml];rfl,rfl,rfl,rfl,trivial⟩ ?_
 intro i s hi
 repeat refine ac rfl ?_
 refine ae rfl ?_ ?_<;>intro h
 ·have hlt : i < l.length := by have := of_decide_eq_true h;omega
  clear h
  have hx := aW (d := dS) hlt
  have hFi : (FL l z t)[i]? = some (ofQ (fI l z t i)) := by rw [FL,List.getElem?_map,hx];rfl
  have hxx := (hl.1 _ (aK hlt)).x
  have hzb : Zb (l.getD i dS).x := aN hxx.1 hxx.2
  have hw : IntKind.i64.wrap (((i : Nat) : Int) + 1) = ((i + 1 : Nat) : Int) := by have := hf.1;rw [wrap_i64 (by omega) (by omega)];omega
  have hBi := hB i hi
  have v0 : Vq (ofQ (fI l z t i)) (fI l z t i) (8 * (n + m + 60) + 4) := Vq.ofQ (h := hFH i hlt)
  have vg : Vq (ofQ (gI l z t i)) (gI l z t i) (8 * (n + m + 60) + 4 + 4) := Vq.ofQ (h := hGH i hlt)
  have v1 : Vq (ofQ (ak (fI l z t) i)) (ak (fI l z t) i) (i * (8 * (n + m + 60) + 4 + 1) + 4) := Vq.ofQ (h := be i fun k hk => hFH k (by omega))
  have v2 : Vq (ofQ (ak (gI l z t) i)) (ak (gI l z t) i) (i * (8 * (n + m + 60) + 4 + 4 + 1) + 4) := Vq.ofQ (h := be i fun k hk => hGH k (by omega))
  have h1 := dj (ofQ (ak (fI l z t) i)) (ofQ (fI l z t i)) (hx := v1) (hy := v0) (by have := Nat.mul_le_mul (Nat.le_refl i) (show 8 * (n + m + 60) + 4 + 1 ≤ 8 * (n + m + 60) + 4 + 4 + 1 by omega);omega) (by omega)
  have h2 := aS (l.getD i dS).x hxx
  have h3 := dV (ofQ (fI l z t i)) (ofQ ((l.getD i dS).x : Rat)) (hx := v0) (by omega) (by decide)
  have h4 := dj (ofQ (ak (gI l z t) i)) (ofQ (gI l z t i)) (hx := v2) (hy := vg) (by omega) (by omega)
  rw [show ak (fI l z t) i + fI l z t i = ak (fI l z t) (i + 1) from rfl] at h1
  rw [show ak (gI l z t) i + gI l z t i = ak (gI l z t) (i + 1) from rfl] at h4
  rw [show fI l z t i * ((l.getD i dS).x : Rat) = gI l z t i from rfl] at h3
  generalize hF1 : ofQ (ak (fI l z t) (i + 1)) = F1 at *
  generalize hG1 : ofQ (ak (gI l z t) (i + 1)) = G1 at *
  generalize ofQ (ak (fI l z t) i) = F0 at *
  generalize ofQ (ak (gI l z t) i) = G0 at *
  repeat refine ac rfl ?_
  refine bm rfl rfl rfl rfl rfl rfl rfl hx rfl ?_
  repeat refine ac rfl ?_
  refine am 8 [18,19,20,21,22,23,24,25] (by decide +kernel) ?_
  repeat refine ac rfl ?_
  refine bm rfl rfl rfl rfl rfl rfl rfl hFi rfl ?_
  repeat refine ac rfl ?_
  refine aq rfl rfl rfl h1 rfl rfl ?_
  repeat refine ac rfl ?_
  refine am 12 [26,27,28,29,30,31,32,33,34,35,36,37] (by decide +kernel) ?_
  repeat refine ac rfl ?_
  refine bm rfl rfl rfl rfl rfl rfl rfl hFi rfl ?_
  repeat refine ac rfl ?_
  refine aq rfl rfl rfl h2 rfl rfl ?_
  repeat refine ac rfl ?_
  refine aq rfl rfl rfl h3 rfl rfl ?_
  repeat refine ac rfl ?_
  refine aq rfl rfl rfl h4 rfl rfl ?_
  repeat refine ac rfl ?_
  refine ⟨i + 1,hlt,by omega,rfl,rfl,rfl,rfl,rfl,congrArg I hw,rfl,?_,trivial⟩
  show (_ : Nat × Option Cont) = (1,some (Cont.mk 90 8 [eR (ofQ (ak (fI l z t) (i + 1))) ++ eR (ofQ (ak (gI l z t) (i + 1)))] 2))
  rw [hF1,hG1]
  rfl
 ·have hie : i = l.length := by have := of_decide_eq_false h;omega
  clear h
  subst hie
  repeat refine ac rfl ?_
  exact aF rfl rfl rfl
structure BR.Ok (b : BR) : Prop where
 lim : b.Lim
 chk : aH b = 0
 few : n3 b.l
theorem ku {b : BR} (h : aH b = 0) : 1 ≤ b.w ∧ b.w ≤ 1000000000 ∧ br b.l = 0 := by
 rw [aH] at h
 split at h
 ·omega
 ·rename_i h1
  exact ⟨by omega,by omega,h⟩
theorem BR.Ok.chkL {b : BR} (h : b.Ok) : br b.l = 0 := (ku h.chk).2.2
set_option maxRecDepth 20000 in
theorem yU {l : List SR} (hl : fE l) (hf : n3 l) {z t : Rat} {n m : Nat} (hz : HQ z n) (ht : HQ t m) : HQ (ak (fI l z t) l.length) (96 * (n + m + 60) + 200) :=
 (be l.length fun i hi => uD (hl.1 _ (aK hi)) (hf.2 _ (aK hi)) hz ht).mono (by have := Nat.mul_le_mul hf.1 (Nat.le_refl (8 * (n + m + 60) + 4 + 1));omega)
set_option maxRecDepth 20000 in
theorem yW {l : List SR} (hl : fE l) (hf : n3 l) {z t : Rat} {n m : Nat} (hz : HQ z n) (ht : HQ t m) : HQ (ak (gI l z t) l.length) (96 * (n + m + 60) + 200) :=
 (be (m := 8 * (n + m + 60) + 4 + 4) l.length fun i hi => by
  have hx := (hl.1 _ (aK hi)).x
  have hx : Zb (l.getD i dS).x := aN hx.1 hx.2
  exact @HQ.mul _ _ _ 4 (uD (hl.1 _ (aK hi)) (hf.2 _ (aK hi)) hz ht) HQ.int).mono (by have := Nat.mul_le_mul hf.1 (Nat.le_refl (8 * (n + m + 60) + 4 + 4 + 1));omega)
theorem ip (l : List SR) (hl : fE l) (hc : br l = 0) (hf : n3 l) (a : AR) {z t : Rat} {n m : Nat} [ha : Va a z t n m] (hn : n + m ≤ 90000) :
  Ret Tryz.prog .shared 51 [.sl (l.map eS),.agg (eA a)] (.tup [.agg (eR (ofQ (ak (fI l z t) l.length)) ++ eR (ofQ (ak (gI l z t) l.length))),I 0]) := by
 have h1 := kH l hl hc a hn
 have h2 := tB l hl hf ha.z.hq ha.t.hq (by omega)
 generalize ofQ (ak (fI l z t) l.length) = X1 at *
 generalize ofQ (ak (gI l z t) l.length) = X2 at *
 generalize FL l z t = L at *
 obtain ⟨az,at'⟩ := a
 refine Ret.of_pwp layOk mixed Go.Proofs.Tryz.func51 rfl (by decide) rfl rfl ?_
 repeat refine ac rfl ?_
 refine aq rfl rfl rfl h1 rfl rfl ?_
 repeat refine ac rfl ?_
 refine aq rfl rfl rfl h2 rfl rfl ?_
 repeat refine ac rfl ?_
 exact aF rfl rfl rfl
theorem rR {b : BR} (hb : b.Ok) : HQ ((b.w : Rat) * b.a.val) 17 := by
 have hw : Zb b.w := aN hb.lim.w.1 hb.lim.w.2
 exact @HQ.mul _ _ 4 13 HQ.int hb.lim.a.v.hq
theorem kE (b : BR) (hb : b.Ok) (a : AR) {z t : Rat} {n m : Nat} [ha : Va a z t n m] (hn : n + m ≤ 60000) : Ret Tryz.prog .shared 164 [.agg (eB b),.agg (eA a)] (.agg (eR (ofQ ((bd b).e z t)))) := by
 have h1 := ip b.l hb.lim.l hb.chkL hb.few a (by omega)
 have h2 := aS b.w hb.lim.w
 have hw : Zb b.w := aN hb.lim.w.1 hb.lim.w.2
 have h3 := dV (ofQ (b.w : Rat)) b.a (hy := hb.lim.a.v) (by decide) (by decide)
 have v1 : Vq (ofQ (ak (gI b.l z t) b.l.length)) (ak (gI b.l z t) b.l.length) (96 * (n + 1 + (m + 1) + 60) + 200) := Vq.ofQ (h := yW hb.lim.l hb.few ha.z.hq ha.t.hq)
 have v2 : Vq (ofQ ((b.w : Rat) * b.a.val)) ((b.w : Rat) * b.a.val) 17 := Vq.ofQ (h := rR hb)
 have h4 := js (ofQ (ak (gI b.l z t) b.l.length)) (ofQ ((b.w : Rat) * b.a.val)) (hx := v1) (hy := v2) (by omega) (by decide)
 rw [show ak (gI b.l z t) b.l.length - (b.w : Rat) * b.a.val = (bd b).e z t from rfl] at h4
 generalize ofQ ((bd b).e z t) = X0 at *
 generalize ofQ (ak (fI b.l z t) b.l.length) = X1 at *
 generalize ofQ (ak (gI b.l z t) b.l.length) = X2 at *
 generalize ofQ ((b.w : Rat) * b.a.val) = X3 at *
 generalize ofQ (b.w : Rat) = X4 at *
 obtain ⟨w,ba,l⟩ := b
 obtain ⟨az,at'⟩ := a
 simp only at *
 refine Ret.of_pwp layOk mixed Go.Proofs.Tryz.func164 rfl (by decide) rfl rfl ?_
 repeat refine ac rfl ?_
 refine aq rfl rfl rfl h1 rfl rfl ?_
 repeat refine ac rfl ?_
 refine am 9 [14,15,16,17,18,19,20,21,22] (by decide +kernel) ?_
 repeat refine ac rfl ?_
 refine aq rfl rfl rfl h2 rfl rfl ?_
 repeat refine ac rfl ?_
 refine aq rfl rfl rfl h3 rfl rfl ?_
 repeat refine ac rfl ?_
 refine aq rfl rfl rfl h4 rfl rfl ?_
 repeat refine ac rfl ?_
 exact aF rfl rfl rfl
theorem zh {b : BR} (hb : b.Ok) {z t : Rat} {n m : Nat} (hz : HQ z n) (ht : HQ t m) : HQ ((bd b).e z t) (96 * (n + m + 60) + 200 + 17 + 1) := @HQ.sub _ _ _ 17 (yW hb.lim.l hb.few hz ht) (rR hb)
instance (b : Bd) (z t : Rat) : Decidable (b.Bal z t) := inferInstanceAs (Decidable (_ ∧ _))
theorem m8 (b : BR) (hb : b.Ok) (a : AR) {z t : Rat} {n m : Nat} [ha : Va a z t n m] (hn : n + m ≤ 60000) : Ret Tryz.prog .shared 115 [.agg (eB b),.agg (eA a)] (.bool (decide ((bd b).Bal z t))) := by
 have h1 := ip b.l hb.lim.l hb.chkL hb.few a (by omega)
 have h2 := aS b.w hb.lim.w
 have hw : Zb b.w := aN hb.lim.w.1 hb.lim.w.2
 have v0 : Vq (ofQ (ak (fI b.l z t) b.l.length)) (ak (fI b.l z t) b.l.length) (96 * (n + 1 + (m + 1) + 60) + 200) := Vq.ofQ (h := yU hb.lim.l hb.few ha.z.hq ha.t.hq)
 have h5 := nf (ofQ (ak (fI b.l z t) b.l.length)) (ofQ (b.w : Rat)) (hx := v0) (by omega) (by decide)
 have h3 := dV (ofQ (b.w : Rat)) b.a (hy := hb.lim.a.v) (by decide) (by decide)
 have v1 : Vq (ofQ (ak (gI b.l z t) b.l.length)) (ak (gI b.l z t) b.l.length) (96 * (n + 1 + (m + 1) + 60) + 200) := Vq.ofQ (h := yW hb.lim.l hb.few ha.z.hq ha.t.hq)
 have v2 : Vq (ofQ ((b.w : Rat) * b.a.val)) ((b.w : Rat) * b.a.val) 17 := Vq.ofQ (h := rR hb)
 have h4 := nf (ofQ (ak (gI b.l z t) b.l.length)) (ofQ ((b.w : Rat) * b.a.val)) (hx := v1) (hy := v2) (by omega) (by decide)
 have key : decide ((bd b).Bal z t) = (decide (sgn (ak (fI b.l z t) b.l.length - (b.w : Rat)) = 0) && decide (sgn (ak (gI b.l z t) b.l.length - (b.w : Rat) * b.a.val) = 0)) := by
  rw [← Bool.decide_and,decide_eq_decide,jp,jp]
  show ak (fI b.l z t) b.l.length = (b.w : Rat) ∧ ak (gI b.l z t) b.l.length = (b.w : Rat) * b.a.val ↔ _
  constructor
  ·rintro ⟨e1,e2⟩;rw [e1,e2];constructor <;> grind
  ·rintro ⟨e1,e2⟩;constructor <;> grind
 rw [key]
 generalize sgn (ak (fI b.l z t) b.l.length - (b.w : Rat)) = g1 at *
 generalize sgn (ak (gI b.l z t) b.l.length - (b.w : Rat) * b.a.val) = g2 at *
 generalize ofQ (ak (fI b.l z t) b.l.length) = X1 at *
 generalize ofQ (ak (gI b.l z t) b.l.length) = X2 at *
 generalize ofQ ((b.w : Rat) * b.a.val) = X3 at *
 generalize ofQ (b.w : Rat) = X4 at *
 obtain ⟨w,ba,l⟩ := b
 obtain ⟨az,at'⟩ := a
 simp only at *
 refine Ret.of_pwp layOk mixed Go.Proofs.Tryz.func115 rfl (by decide) rfl rfl ?_
 repeat refine ac rfl ?_
 refine aq rfl rfl rfl h1 rfl rfl ?_
 repeat refine ac rfl ?_
 refine am 20 [14,15,16,17,18,19,20,21,22,23,24,25,26,27,28,29,30,31,32,4] (by decide +kernel) ?_
 repeat refine ac rfl ?_
 refine aq rfl rfl rfl h2 rfl rfl ?_
 repeat refine ac rfl ?_
 refine aT rfl rfl rfl h5 rfl rfl rfl ?_
 repeat refine ac rfl ?_
 refine cb rfl rfl rfl ?_ ?_<;>intro h
 ·rw [h]
  clear h
  repeat refine ac rfl ?_
  refine aq rfl rfl rfl h2 rfl rfl ?_
  repeat refine ac rfl ?_
  refine aq rfl rfl rfl h3 rfl rfl ?_
  repeat refine ac rfl ?_
  refine aT rfl rfl rfl h4 rfl rfl rfl ?_
  repeat refine ac rfl ?_
  exact bj rfl rfl rfl
 ·rw [h]
  clear h
  repeat refine ac rfl ?_
  exact bj rfl rfl rfl
theorem rH {S M : Nat → Rat} {n : Nat} {y : Rat} (h : ∀ k,k + 1 < n → S k < S (k + 1)) : ∀ m,m ≤ n → ak (et S M y) m = bg M (jL S y m)
 |0,_ => rfl
 |m + 1,hm => by
  rw [ak,rH h m (by omega),jL,et]
  by_cases hy : S m ≤ y
  ·rw [if_pos hy,if_neg (by grind)]
   have : jL S y m = m := by
    cases m with
    |zero => rfl
    |succ j =>
     have := h j (by omega)
     rw [jL,if_pos (by grind)]
   rw [this,bg]
   grind
  ·rw [if_neg hy,if_pos (by grind)]
   grind
def sN (c : CR) (y : Rat) : Nat → RR
 |0 => ofQ 0
 |i + 1 => if c.s i < y then c.M.getD i RR.zero else sN c y i
theorem uT {c : CR} (hc : c.Lim) (y : Rat) : ∀ i,Vq (sN c y i) (bg c.m (nZ c.s y i)) 12
 |0 => l0 c hc 0
 |i + 1 => by
  rw [sN,nZ]
  split
  ·exact oQ c hc i
  ·exact uT hc y i
theorem li (s : SR) (hs : s.Lim) (hk : bp s.k = 0) (a : AR) {z t : Rat} {n m : Nat} [ha : Va a z t n m] (hn : n + m ≤ 90000) : Ret Tryz.prog .shared 173 [.agg (eS s),.dref (eA a) 0] (.agg (eR (ofQ (bg s.k.m (jL s.k.s (yQ s z t) s.k.S.length))))) := by
 have h1 := i9 s hs a (by omega) (by omega)
 have v1 : Vq (ofQ (yQ s z t)) (yQ s z t) (13 + (n + 1 + (m + 1 + 4) + 1) + 1) := Vq.ofQ (h := rT hs ha.z.hq ha.t.hq)
 have h2 := tn s.k hs.k hk (ofQ (yQ s z t)) (hy := v1) (by omega)
 rw [we,rH (cZ hk).2.2.2 _ (Nat.le_refl _)] at h2
 generalize ofQ (bg s.k.m (jL s.k.s (yQ s z t) s.k.S.length)) = X2 at *
 generalize ofQ (yQ s z t) = X1 at *
 obtain ⟨x,c,k⟩ := s
 obtain ⟨az,at'⟩ := a
 try simp only at *
 refine Ret.of_pwp layOk mixed Go.Proofs.Tryz.func173 rfl (by decide) rfl rfl ?_
 repeat refine ac rfl ?_
 refine bM [4] [9,10] (by decide +kernel) ?_
 repeat refine ac rfl ?_
 refine aq rfl rfl rfl h1 rfl rfl ?_
 repeat refine ac rfl ?_
 refine aq rfl rfl rfl h2 rfl rfl ?_
 repeat refine ac rfl ?_
 exact aF rfl rfl rfl
set_option maxRecDepth 20000 in
theorem mh (s : SR) (hs : s.Lim) (hk : bp s.k = 0) (a : AR) {z t : Rat} {n m : Nat} [ha : Va a z t n m] (hn : n + m ≤ 90000) : Ret Tryz.prog .shared 206 [.agg (eS s),.dref (eA a) 0] (.agg (eR (sN s.k (yQ s z t) s.k.S.length))) := by
 have h1 := i9 s hs a (by omega) (by omega)
 have v1 : Vq (ofQ (yQ s z t)) (yQ s z t) (13 + (n + 1 + (m + 1 + 4) + 1) + 1) := Vq.ofQ (h := rT hs ha.z.hq ha.t.hq)
 have hw0 := aS 0 ⟨by decide,by decide⟩
 rw [show (((0 : Int) : Rat)) = 0 from rfl] at hw0
 have hSM := (cZ hk).2.1
 have h40 := (cZ hk).1
 have hkl := hs.k
 obtain ⟨x,c,k⟩ := s
 obtain ⟨az,at'⟩ := a
 simp only at hSM h40 hkl
 dsimp only
 generalize yQ ⟨x,c,k⟩ z t = y at *
 generalize ofQ y = Y at *
 have hSl : (k.S.map eN).length = k.S.length := by simp
 refine Ret.of_pwp layOk mixed Go.Proofs.Tryz.func206 rfl (by decide) rfl rfl ?_
 repeat refine ac rfl ?_
 refine aq rfl rfl rfl h1 rfl rfl ?_
 repeat refine ac rfl ?_
 refine aq rfl rfl rfl hw0 rfl rfl ?_
 repeat refine ac rfl ?_
 refine ax (fun i : Nat => i ≤ k.S.length) (fun i => [(2,.ptr 2 1 0 0),(3,.ptr 3 1 0 0),(4,.ptr 4 1 0 0),(5,.ptr 5 1 0 0),(14,.sl (k.S.map eN)),(15,I k.S.length),(16,I (i : Nat))])
  (fun i => [(2,1,⟨122,7,[eS ⟨x,c,k⟩],2⟩),(3,1,⟨26,4,[zN],2⟩),(4,1,⟨26,4,[eR Y],2⟩),(5,1,⟨26,4,[eR (sN k y i)],2⟩)]) (fun i => k.S.length - i) 0 (Nat.zero_le _) ⟨rfl,rfl,rfl,rfl,rfl,by rw [← hSl];rfl,rfl,rfl,rfl,rfl,rfl,trivial⟩ ?_
 intro i s hi
 repeat refine ac rfl ?_
 refine ae rfl ?_ ?_<;>intro h
 ·have hlt : i < k.S.length := by have := of_decide_eq_true h;omega
  clear h
  have hx := aW (d := 0) hlt
  have hmx := aW (l := k.M) (i := i) (d := RR.zero) (by omega)
  have hxb := jP hkl i
  have hnum := aS (k.S.getD i 0) hxb
  have hzb : Zb (k.S.getD i 0) := aN hxb.1 hxb.2
  have hcm := nf (ofQ ((k.S.getD i 0 : Int) : Rat)) Y (hy := v1) (by decide) (by omega)
  have hsl := d9 (k.s i - y)
  rw [show ((k.S.getD i 0 : Int) : Rat) = k.s i from rfl] at hnum hcm
  have hw := f7 i
  have hst : sN k y (i + 1) = if k.s i < y then k.M.getD i RR.zero else sN k y i := rfl
  generalize ofQ (k.s i) = N at *
  repeat refine ac rfl ?_
  refine bm rfl rfl rfl rfl rfl rfl rfl hx rfl ?_
  repeat refine ac rfl ?_
  refine am 5 [21,22,23,24,25] (by decide +kernel) ?_
  repeat refine ac rfl ?_
  refine aq rfl rfl rfl hnum rfl rfl ?_
  repeat refine ac rfl ?_
  refine aT rfl rfl rfl hcm rfl rfl rfl ?_
  repeat refine ac rfl ?_
  refine ae rfl ?_ ?_<;>intro h
  ·have h3 : k.s i < y := by have := hsl.1 (of_decide_eq_true h);grind
   clear h
   rw [if_pos h3] at hst
   repeat refine ac rfl ?_
   refine bm rfl rfl rfl rfl rfl rfl rfl hmx rfl ?_
   repeat refine ac rfl ?_
   refine ⟨i + 1,hlt,by omega,rfl,rfl,rfl,rfl,rfl,rfl,congrArg I hw,rfl,rfl,rfl,?_,trivial⟩
   show (_ : Nat × Option Cont) = (1,some (Cont.mk 26 4 [eR (sN k y (i + 1))] 2))
   rw [hst]
   rfl
  ·have h3 : ¬ k.s i < y := fun h2 => (of_decide_eq_false h) (hsl.2 (by grind))
   clear h
   rw [if_neg h3] at hst
   repeat refine ac rfl ?_
   refine ⟨i + 1,hlt,by omega,rfl,rfl,rfl,rfl,rfl,rfl,congrArg I hw,rfl,rfl,rfl,?_,trivial⟩
   show (_ : Nat × Option Cont) = (1,some (Cont.mk 26 4 [eR (sN k y (i + 1))] 2))
   rw [hst]
   rfl
 ·have hie : i = k.S.length := by have := of_decide_eq_false h;omega
  clear h
  subst hie
  repeat refine ac rfl ?_
  exact aF rfl rfl rfl
theorem mG (a : AR) : Ret Tryz.prog .shared 127 [.agg (eA a)] (.clo 173 [.dref (eA a) 0]) := by
 obtain ⟨az,at'⟩ := a
 refine Ret.of_pwp layOk mixed Go.Proofs.Tryz.func127 rfl (by decide) rfl rfl ?_
 repeat refine ac rfl ?_
 exact aF rfl rfl rfl
theorem oN (a : AR) : Ret Tryz.prog .shared 194 [.agg (eA a)] (.clo 206 [.dref (eA a) 0]) := by
 obtain ⟨az,at'⟩ := a
 refine Ret.of_pwp layOk mixed Go.Proofs.Tryz.func194 rfl (by decide) rfl rfl ?_
 repeat refine ac rfl ?_
 exact aF rfl rfl rfl
def xI (l : List SR) (i : Nat) : Rat := ((l.getD i dS).x : Rat)
def eK (a b c : RR) : List PV := eR a ++ (eR b ++ eR c)
set_option maxRecDepth 20000 in
theorem mN (l : List SR) (hl : fE l) (hf : n3 l) (f : FuncId) (cc : List PV) (g : SR → RR) (κ : Nat → Rat) (hg : ∀ s ∈ l,Ret Tryz.prog .shared f [.agg (eS s),.dref cc 0] (.agg (eR (g s)))) (hv : ∀ i,i < l.length → Vq (g (l.getD i dS)) (κ i) 1000) :
  Ret Tryz.prog .shared 126 [.sl (l.map eS),.clo f [.dref cc 0]] (.agg (eK (ofQ (ak κ l.length)) (ofQ (ak (fun i => κ i * xI l i) l.length)) (ofQ (ak (fun i => κ i * xI l i * xI l i) l.length)))) := by
 have hw0 := aS 0 ⟨by decide,by decide⟩
 rw [show (((0 : Int) : Rat)) = 0 from rfl] at hw0
 have hml : (l.map eS).length = l.length := by simp
 have hX : ∀ i,i < l.length → HQ (xI l i) 4 := fun i hi => by
  have hx := (hl.1 _ (aK hi)).x
  have hx : Zb (l.getD i dS).x := aN hx.1 hx.2
  exact HQ.int
 have hK : ∀ i,i < l.length → HQ (κ i) 1001 := fun i hi => (hv i hi).hq
 have hC : ∀ i,i < l.length → HQ (κ i * xI l i) 1005 := fun i hi => @HQ.mul _ _ 1001 4 (hK i hi) (hX i hi)
 have hP : ∀ i,i < l.length → HQ (κ i * xI l i * xI l i) 1009 := fun i hi => @HQ.mul _ _ 1005 4 (hC i hi) (hX i hi)
 have h12 := hf.1
 generalize hc : (fun i => κ i * xI l i) = C at *
 generalize hp : (fun i => κ i * xI l i * xI l i) = Pq at *
 have hCi : ∀ i,κ i * xI l i = C i := fun i => by rw [← hc]
 have hPi : ∀ i,C i * xI l i = Pq i := fun i => by rw [← hc,← hp]
 simp only [hCi,hPi] at hC hP
 clear hc hp
 refine Ret.of_pwp layOk mixed Go.Proofs.Tryz.func126 rfl (by decide) rfl rfl ?_
 repeat refine ac rfl ?_
 refine aq rfl rfl rfl hw0 rfl rfl ?_
 repeat refine ac rfl ?_
 refine aq rfl rfl rfl hw0 rfl rfl ?_
 repeat refine ac rfl ?_
 refine aq rfl rfl rfl hw0 rfl rfl ?_
 repeat refine ac rfl ?_
 refine ax (fun i : Nat => i ≤ l.length) (fun i => [(1,.clo f [.dref cc 0]),(4,.ptr 4 1 0 0),(5,.ptr 5 1 0 0),(13,.sl (l.map eS)),(14,I l.length),(15,I (i : Nat))])
  (fun i => [(4,1,⟨94,12,[zN ++ (zN ++ zN)],2⟩),(5,1,⟨94,12,[eK (ofQ (ak κ i)) (ofQ (ak C i)) (ofQ (ak Pq i))],2⟩)]) (fun i => l.length - i) 0 (Nat.zero_le _) ⟨rfl,rfl,rfl,rfl,by rw [← hml];rfl,rfl,rfl,rfl,trivial⟩ ?_
 intro i s hi
 repeat refine ac rfl ?_
 refine ae rfl ?_ ?_<;>intro h
 ·have hlt : i < l.length := by have := of_decide_eq_true h;omega
  clear h
  have hx := aW (d := dS) hlt
  have hxx := (hl.1 _ (aK hlt)).x
  have hgx := hg _ (aK hlt)
  have hvi := hv i hlt
  have hw := f7 i
  have hwx := aS (l.getD i dS).x hxx
  rw [show ((l.getD i dS).x : Rat) = xI l i from rfl] at hwx
  have vx : Vq (ofQ (xI l i)) (xI l i) 4 := Vq.ofQ (h := hX i hlt)
  have v1 : Vq (ofQ (ak κ i)) (ak κ i) (i * (1001 + 1) + 4) := Vq.ofQ (h := be i fun k hk => hK k (by omega))
  have v2 : Vq (ofQ (ak C i)) (ak C i) (i * (1005 + 1) + 4) := Vq.ofQ (h := be i fun k hk => hC k (by omega))
  have v3 : Vq (ofQ (ak Pq i)) (ak Pq i) (i * (1009 + 1) + 4) := Vq.ofQ (h := be i fun k hk => hP k (by omega))
  have w2 : Vq (ofQ (C i)) (C i) 1005 := Vq.ofQ (h := hC i hlt)
  have w3 : Vq (ofQ (Pq i)) (Pq i) 1009 := Vq.ofQ (h := hP i hlt)
  have a1 := dj (ofQ (ak κ i)) (g (l.getD i dS)) (hx := v1) (hy := hvi) (by omega) (by decide)
  have m1 := dV (g (l.getD i dS)) (ofQ (xI l i)) (hx := hvi) (hy := vx) (by decide) (by decide)
  rw [hCi] at m1
  have a2 := dj (ofQ (ak C i)) (ofQ (C i)) (hx := v2) (hy := w2) (by omega) (by decide)
  have m2 := dV (ofQ (C i)) (ofQ (xI l i)) (hx := w2) (hy := vx) (by decide) (by decide)
  rw [hPi] at m2
  have a3 := dj (ofQ (ak Pq i)) (ofQ (Pq i)) (hx := v3) (hy := w3) (by omega) (by decide)
  rw [show ak κ i + κ i = ak κ (i + 1) from rfl] at a1
  rw [show ak C i + C i = ak C (i + 1) from rfl] at a2
  rw [show ak Pq i + Pq i = ak Pq (i + 1) from rfl] at a3
  have hout : eK (ofQ (ak κ (i + 1))) (ofQ (ak C (i + 1))) (ofQ (ak Pq (i + 1))) = eK (ofQ (ak κ (i + 1))) (ofQ (ak C (i + 1))) (ofQ (ak Pq (i + 1))) := rfl
  generalize ofQ (ak κ i) = K0 at *
  generalize ofQ (ak C i) = C0 at *
  generalize ofQ (ak Pq i) = P0 at *
  generalize hK1 : ofQ (ak κ (i + 1)) = K1 at *
  generalize hC1 : ofQ (ak C (i + 1)) = C1 at *
  generalize hP1 : ofQ (ak Pq (i + 1)) = P1 at *
  generalize ofQ (xI l i) = XI at *
  generalize ofQ (C i) = CI at *
  generalize ofQ (Pq i) = PI at *
  repeat refine ac rfl ?_
  refine bm rfl rfl rfl rfl rfl rfl rfl hx rfl ?_
  repeat refine ac rfl ?_
  refine aq rfl rfl rfl hgx rfl rfl ?_
  repeat refine ac rfl ?_
  refine aq rfl rfl rfl a1 rfl rfl ?_
  repeat refine ac rfl ?_
  refine am 5 [27,28,29,30,31] (by decide +kernel) ?_
  repeat refine ac rfl ?_
  refine aq rfl rfl rfl hwx rfl rfl ?_
  repeat refine ac rfl ?_
  refine aq rfl rfl rfl m1 rfl rfl ?_
  repeat refine ac rfl ?_
  refine aq rfl rfl rfl a2 rfl rfl ?_
  repeat refine ac rfl ?_
  refine am 9 [37,38,39,40,41,42,43,44,45] (by decide +kernel) ?_
  repeat refine ac rfl ?_
  refine aq rfl rfl rfl hwx rfl rfl ?_
  repeat refine ac rfl ?_
  refine aq rfl rfl rfl m2 rfl rfl ?_
  repeat refine ac rfl ?_
  refine aq rfl rfl rfl a3 rfl rfl ?_
  repeat refine ac rfl ?_
  refine ⟨i + 1,hlt,by omega,rfl,rfl,rfl,rfl,rfl,congrArg I hw,rfl,?_,trivial⟩
  show (_ : Nat × Option Cont) = (1,some (Cont.mk 94 12 [eK (ofQ (ak κ (i + 1))) (ofQ (ak C (i + 1))) (ofQ (ak Pq (i + 1)))] 2))
  rw [hK1,hC1,hP1]
  rfl
 ·have hie : i = l.length := by have := of_decide_eq_false h;omega
  clear h
  subst hie
  repeat refine ac rfl ?_
  exact aF rfl rfl rfl
theorem rY (a d : AR) {z t : Rat} {n m : Nat} {z' t' : Rat} {n' m' : Nat} [ha : Va a z t n m] [hd : Va d z' t' n' m'] (h1 : n ≤ 8000000) (h2 : m ≤ 8000000) (h3 : n' ≤ 8000000) (h4 : m' ≤ 8000000) : Ret Tryz.prog .shared 128 [.agg (eA a),.agg (eA d)] (.agg (eA ⟨ofQ (z + z'),ofQ (t + t')⟩)) := by
 have a1 := dj a.z d.z (hx := ha.z) (hy := hd.z) (by omega) (by omega)
 have a2 := dj a.t d.t (hx := ha.t) (hy := hd.t) (by omega) (by omega)
 generalize ofQ (z + z') = X at *
 generalize ofQ (t + t') = Y at *
 obtain ⟨az,at'⟩ := a
 obtain ⟨dz,dt⟩ := d
 try simp only at *
 refine Ret.of_pwp layOk mixed Go.Proofs.Tryz.func128 rfl (by decide) rfl rfl ?_
 repeat refine ac rfl ?_
 refine am 11 [5,6,7,8,9,10,11,12,13,14,15] (by decide +kernel) ?_
 repeat refine ac rfl ?_
 refine aq rfl rfl rfl a1 rfl rfl ?_
 repeat refine ac rfl ?_
 refine aq rfl rfl rfl a2 rfl rfl ?_
 repeat refine ac rfl ?_
 exact aF rfl rfl rfl
theorem b8 {q : Rat} {n : Nat} (h : Vq (ofQ q) q n) : HQ q n := by
 refine ⟨?_⟩
 obtain ⟨_,h1,h2⟩ := h
 have e1 := bB (ofQ q).n.l
 have e2 := bB (ofQ q).d.l
 rw [show (ofQ q).n.l = ao q.num.natAbs from rfl] at e1 h1
 rw [show (ofQ q).d.l = ao q.den from rfl] at e2 h2
 rw [aD] at e1 e2
 exact ⟨Nat.lt_of_lt_of_le e1 (b7 h1),Nat.lt_of_lt_of_le e2 (b7 h2)⟩
def kU (d : Option (Rat × Rat)) : PV := match d with
 |none => .tup [.agg (zN ++ zN),.bool false]
 |some d => .tup [.agg (eA ⟨ofQ d.1,ofQ d.2⟩),.bool true]
set_option maxRecDepth 20000 in
theorem sS (kh kc kp fo mo : RR) {η c p u v : Rat} {a b : Nat} (hh : Vq kh η a) (hc : Vq kc c a) (hp : Vq kp p a) (hu : Vq fo u b) (hv : Vq mo v b) (ha : a ≤ 20000) (hb : b ≤ 7000000) :
  Ret Tryz.prog .shared 125 [.agg (eK kh kc kp),.agg (eR fo),.agg (eR mo)] (kU (Bd.newt η c p u v)) := by
 have m1 := dV kh kp (hx := hh) (hy := hp) (by omega) (by omega)
 have m2 := dV kc kc (hx := hc) (hy := hc) (by omega) (by omega)
 have v1 : Vq (ofQ (η * p)) (η * p) (a + 1 + (a + 1)) := Vq.ofQ (h := @HQ.mul _ _ (a + 1) (a + 1) hh.hq hp.hq)
 have v2 : Vq (ofQ (c * c)) (c * c) (a + 1 + (a + 1)) := Vq.ofQ (h := @HQ.mul _ _ (a + 1) (a + 1) hc.hq hc.hq)
 have s1 := js (ofQ (η * p)) (ofQ (c * c)) (hx := v1) (hy := v2) (by omega) (by omega)
 have v3 : Vq (ofQ (η * p - c * c)) (η * p - c * c) (a + 1 + (a + 1) + (a + 1 + (a + 1)) + 1) := Vq.ofQ (h := @HQ.sub _ _ _ _ (b8 v1) (b8 v2))
 have sg := lr (ofQ (η * p - c * c)) (hx := v3) (by omega)
 have hs0 := jp (η * p - c * c)
 by_cases h0 : η * p - c * c = 0
 ·have hn : Bd.newt η c p u v = none := by rw [Bd.newt,if_pos h0]
  rw [hn]
  have e0 := hs0.2 h0
  rw [e0] at sg
  generalize ofQ (η * p - c * c) = D at *
  generalize ofQ (η * p) = D1 at *
  generalize ofQ (c * c) = D2 at *
  clear hn
  refine Ret.of_pwp layOk mixed Go.Proofs.Tryz.func125 rfl (by decide) rfl rfl ?_
  repeat refine ac rfl ?_
  refine aZ 11 1 [11,12,13,14,15,16,17,18,19,20,21,8] [] (by decide +kernel) rfl ?_
  repeat refine ac rfl ?_
  refine aq rfl rfl rfl m1 rfl rfl ?_
  repeat refine ac rfl ?_
  refine aq rfl rfl rfl m2 rfl rfl ?_
  repeat refine ac rfl ?_
  refine aq rfl rfl rfl s1 rfl rfl ?_
  repeat refine ac rfl ?_
  refine aT rfl rfl rfl sg rfl rfl rfl ?_
  repeat refine ac rfl ?_
  exact aF rfl rfl rfl
 ·have hn : Bd.newt η c p u v = some ((p * u - c * v) / (η * p - c * c),(η * v - c * u) / (η * p - c * c)) := by rw [Bd.newt,if_neg h0]
  rw [hn]
  have m3 := dV kp fo (hx := hp) (hy := hu) (by omega) (by omega)
  have m4 := dV kc mo (hx := hc) (hy := hv) (by omega) (by omega)
  have m5 := dV kh mo (hx := hh) (hy := hv) (by omega) (by omega)
  have m6 := dV kc fo (hx := hc) (hy := hu) (by omega) (by omega)
  have w3 : Vq (ofQ (p * u)) (p * u) (a + 1 + (b + 1)) := Vq.ofQ (h := @HQ.mul _ _ (a + 1) (b + 1) hp.hq hu.hq)
  have w4 : Vq (ofQ (c * v)) (c * v) (a + 1 + (b + 1)) := Vq.ofQ (h := @HQ.mul _ _ (a + 1) (b + 1) hc.hq hv.hq)
  have w5 : Vq (ofQ (η * v)) (η * v) (a + 1 + (b + 1)) := Vq.ofQ (h := @HQ.mul _ _ (a + 1) (b + 1) hh.hq hv.hq)
  have w6 : Vq (ofQ (c * u)) (c * u) (a + 1 + (b + 1)) := Vq.ofQ (h := @HQ.mul _ _ (a + 1) (b + 1) hc.hq hu.hq)
  have s2 := js (ofQ (p * u)) (ofQ (c * v)) (hx := w3) (hy := w4) (by omega) (by omega)
  have s3 := js (ofQ (η * v)) (ofQ (c * u)) (hx := w5) (hy := w6) (by omega) (by omega)
  have x2 : Vq (ofQ (p * u - c * v)) (p * u - c * v) (a + 1 + (b + 1) + (a + 1 + (b + 1)) + 1) := Vq.ofQ (h := @HQ.sub _ _ _ _ (b8 w3) (b8 w4))
  have x3 : Vq (ofQ (η * v - c * u)) (η * v - c * u) (a + 1 + (b + 1) + (a + 1 + (b + 1)) + 1) := Vq.ofQ (h := @HQ.sub _ _ _ _ (b8 w5) (b8 w6))
  have q2 := mt (ofQ (p * u - c * v)) (ofQ (η * p - c * c)) (hx := x2) (hy := v3) (by omega) (by omega) h0
  have q3 := mt (ofQ (η * v - c * u)) (ofQ (η * p - c * c)) (hx := x3) (hy := v3) (by omega) (by omega) h0
  have hsn : sgn (η * p - c * c) ≠ 0 := fun e => h0 (hs0.1 e)
  simp only [kU]
  generalize ofQ ((p * u - c * v) / (η * p - c * c)) = R1 at *
  generalize ofQ ((η * v - c * u) / (η * p - c * c)) = R2 at *
  generalize sgn (η * p - c * c) = gs at *
  generalize ofQ (η * p - c * c) = D at *
  generalize ofQ (η * p) = D1 at *
  generalize ofQ (c * c) = D2 at *
  generalize ofQ (p * u - c * v) = D3 at *
  generalize ofQ (η * v - c * u) = D4 at *
  generalize ofQ (p * u) = D5 at *
  generalize ofQ (c * v) = D6 at *
  generalize ofQ (η * v) = D7 at *
  generalize ofQ (c * u) = D8 at *
  clear hn
  refine Ret.of_pwp layOk mixed Go.Proofs.Tryz.func125 rfl (by decide) rfl rfl ?_
  repeat refine ac rfl ?_
  refine aZ 11 1 [11,12,13,14,15,16,17,18,19,20,21,8] [] (by decide +kernel) rfl ?_
  repeat refine ac rfl ?_
  refine aq rfl rfl rfl m1 rfl rfl ?_
  repeat refine ac rfl ?_
  refine aq rfl rfl rfl m2 rfl rfl ?_
  repeat refine ac rfl ?_
  refine aq rfl rfl rfl s1 rfl rfl ?_
  repeat refine ac rfl ?_
  refine aT rfl rfl rfl sg rfl rfl rfl ?_
  repeat refine ac rfl ?_
  refine ae rfl ?_ ?_<;>intro h
  ·exact absurd (of_decide_eq_true h) hsn
  clear h
  repeat refine ac rfl ?_
  refine aZ 9 1 [26,27,28,29,30,31,32,33,34,9] [] (by decide +kernel) rfl ?_
  repeat refine ac rfl ?_
  refine aq rfl rfl rfl m3 rfl rfl ?_
  repeat refine ac rfl ?_
  refine aq rfl rfl rfl m4 rfl rfl ?_
  repeat refine ac rfl ?_
  refine aq rfl rfl rfl s2 rfl rfl ?_
  repeat refine ac rfl ?_
  refine aZ 9 1 [35,36,37,38,39,40,41,42,43,10] [] (by decide +kernel) rfl ?_
  repeat refine ac rfl ?_
  refine aq rfl rfl rfl m5 rfl rfl ?_
  repeat refine ac rfl ?_
  refine aq rfl rfl rfl m6 rfl rfl ?_
  repeat refine ac rfl ?_
  refine aq rfl rfl rfl s3 rfl rfl ?_
  repeat refine ac rfl ?_
  refine am 7 [44,45,46,47,48,49,50] (by decide +kernel) ?_
  repeat refine ac rfl ?_
  refine aq rfl rfl rfl q2 rfl rfl ?_
  repeat refine ac rfl ?_
  refine aq rfl rfl rfl q3 rfl rfl ?_
  repeat refine ac rfl ?_
  exact aF rfl rfl rfl
def eu (S M : Nat → Rat) (k : Nat) : Rat := M k * (S (k + 1) - S k)
theorem oZ (S M : Nat → Rat) : ∀ m,gx S M (m + 1) = M m * S m - ak (eu S M) m
 |0 => by rw [gx,ak,ak,ak,bg];grind
 |m + 1 => by
  have := oZ S M m
  rw [gx] at this ⊢
  rw [ak,this,ak,bg,eu];grind
theorem qO {S M : Nat → Rat} {n : Nat} (h : bg M n = 0) : kw n S M = ak (eu S M) (n - 1) := by
 cases n with
 |zero => rw [kw,gx,ak,ak];grind
 |succ m =>
  rw [bg] at h
  rw [kw,oZ,h,show m + 1 - 1 = m by omega];grind
def xb (c : CR) : PV := if bg c.m c.S.length = 0 then .tup [.agg (eR (ofQ (kw c.S.length c.s c.m))),.bool true,I 0] else .tup [.agg zN,.bool false,I 0]
theorem nb {c : CR} (hc : c.Lim) (k : Nat) : HQ (eu c.s c.m k) (13 + (4 + 4 + 1)) := by
 have h1 := jP hc k
 have h2 := jP hc (k + 1)
 have z1 : Zb (c.S.getD k 0) := aN h1.1 h1.2
 have z2 : Zb (c.S.getD (k + 1) 0) := aN h2.1 h2.2
 exact @HQ.mul _ _ 13 9 (oQ c hc k).hq (@HQ.sub _ _ 4 4 HQ.int HQ.int)
set_option maxRecDepth 20000 in
theorem nc (c : CR) (hc : c.Lim) (h0 : bp c = 0) : Ret Tryz.prog .shared 131 [.agg (eC c)] (xb c) := by
 have hcc := cY c hc
 rw [h0] at hcc
 obtain ⟨h40,hSM,hrange,-⟩ := cZ h0
 have hz := dl 0 (by decide) (by decide)
 rw [show (((0 : Int) : Rat)) = 0 from rfl] at hz
 have hSl : (c.S.map eN).length = c.S.length := by simp
 generalize hR : xb c = R
 rw [xb] at hR
 refine Ret.of_pwp layOk mixed Go.Proofs.Tryz.func131 rfl (by decide) rfl rfl ?_
 repeat refine ac rfl ?_
 refine aT rfl rfl rfl hcc rfl rfl rfl ?_
 repeat refine ac rfl ?_
 refine aq rfl rfl rfl hz rfl rfl ?_
 repeat refine ac rfl ?_
 refine ax (fun i : Nat => i ≤ c.S.length ∧ (i = c.S.length → bg c.m c.S.length = 0)) (fun i => [(1,.ptr 1 1 0 0),(2,.ptr 2 1 0 0),(6,.ptr 6 1 0 0),(17,.sl (c.S.map eN)),(18,I c.S.length),(19,I (i : Nat))])
  (fun i => [(1,1,⟨120,2,[eC c],2⟩),(2,1,⟨26,4,[zN],2⟩),(6,1,⟨26,4,[eR (ofQ (ak (eu c.s c.m) (min i (c.S.length - 1))))],2⟩)]) (fun i => c.S.length - i) 0 ⟨Nat.zero_le _,fun h => by rw [← h];rfl⟩ ⟨rfl,rfl,rfl,rfl,by rw [← hSl];rfl,rfl,rfl,rfl,?_,trivial⟩ ?_
 ·show (_ : Nat × Option Cont) = (1,some (Cont.mk 26 4 [eR (ofQ (ak (eu c.s c.m) (min 0 (c.S.length - 1))))] 2))
  rw [Nat.zero_min]
  rfl
 intro i s ⟨hi,hlast⟩
 repeat refine ac rfl ?_
 refine ae rfl ?_ ?_<;>intro h
 ·have hlt : i < c.S.length := by have := of_decide_eq_true h;omega
  clear h
  have hx := aW (d := 0) hlt
  have hmx := aW (l := c.M) (i := i) (d := RR.zero) (by omega)
  have hw := f7 i
  by_cases hn : i + 1 < c.S.length
  ·have hy := aW (d := 0) hn
   have r1 := (hrange i hlt)
   have r2 := (hrange (i + 1) hn)
   have hd : IntKind.i64.wrap (c.S.getD (i + 1) 0 - c.S.getD i 0) = c.S.getD (i + 1) 0 - c.S.getD i 0 := wrap_i64 (by omega) (by omega)
   have hnum := dl (c.S.getD (i + 1) 0 - c.S.getD i 0) (by omega) (by omega)
   have ed : ((c.S.getD (i + 1) 0 - c.S.getD i 0 : Int) : Rat) = c.s (i + 1) - c.s i := by rw [CR.s,CR.s];push_cast;rfl
   rw [ed] at hnum
   have z1 : Zb (c.S.getD i 0) := aN (by omega) (by omega)
   have z2 : Zb (c.S.getD (i + 1) 0) := aN (by omega) (by omega)
   have v1 : Vq (ofQ (c.s (i + 1) - c.s i)) (c.s (i + 1) - c.s i) 9 := Vq.ofQ (h := @HQ.sub _ _ 4 4 HQ.int HQ.int)
   have m1 := dV (c.M.getD i RR.zero) (ofQ (c.s (i + 1) - c.s i)) (hx := oQ c hc i) (hy := v1) (by decide) (by decide)
   have v2 : Vq (ofQ (ak (eu c.s c.m) i)) (ak (eu c.s c.m) i) (i * (13 + (4 + 4 + 1) + 1) + 4) := Vq.ofQ (h := be i fun k _ => nb hc k)
   have v3 : Vq (ofQ (eu c.s c.m i)) (eu c.s c.m i) (13 + (4 + 4 + 1)) := Vq.ofQ (h := nb hc i)
   rw [show c.m i * (c.s (i + 1) - c.s i) = eu c.s c.m i from rfl] at m1
   have a1 := dj (ofQ (ak (eu c.s c.m) i)) (ofQ (eu c.s c.m i)) (hx := v2) (hy := v3) (by omega) (by decide)
   rw [show ak (eu c.s c.m) i + eu c.s c.m i = ak (eu c.s c.m) (i + 1) from rfl] at a1
   rw [show min i (c.S.length - 1) = i by omega]
   generalize ofQ (ak (eu c.s c.m) i) = K0 at *
   generalize hK1 : ofQ (ak (eu c.s c.m) (i + 1)) = K1 at *
   generalize ofQ (eu c.s c.m i) = T0 at *
   generalize ofQ (c.s (i + 1) - c.s i) = D0 at *
   repeat refine ac rfl ?_
   refine bm rfl rfl rfl rfl rfl rfl rfl hx rfl ?_
   repeat refine ac rfl ?_
   rw [hw]
   refine ae rfl ?_ ?_<;>intro h
   ·clear h
    repeat refine ac rfl ?_
    refine am 17 [30,31,32,33,34,35,36,37,38,39,40,41,42,43,44,45,46] (by decide +kernel) ?_
    repeat refine ac rfl ?_
    refine bm rfl rfl rfl rfl rfl rfl rfl hmx rfl ?_
    repeat refine ac rfl ?_
    rw [hw]
    refine bm rfl rfl rfl rfl rfl rfl rfl hy rfl ?_
    repeat refine ac rfl ?_
    rw [hd]
    refine aq rfl rfl rfl hnum rfl rfl ?_
    repeat refine ac rfl ?_
    refine aq rfl rfl rfl m1 rfl rfl ?_
    repeat refine ac rfl ?_
    refine aq rfl rfl rfl a1 rfl rfl ?_
    repeat refine ac rfl ?_
    refine ⟨i + 1,⟨by omega,fun h => by omega⟩,by omega,rfl,rfl,rfl,rfl,rfl,congrArg I hw,rfl,rfl,?_,trivial⟩
    show (_ : Nat × Option Cont) = (1,some (Cont.mk 26 4 [eR (ofQ (ak (eu c.s c.m) (min (i + 1) (c.S.length - 1))))] 2))
    rw [show min (i + 1) (c.S.length - 1) = i + 1 by omega,hK1]
    rfl
   ·have := of_decide_eq_false h
    exfalso
    omega
  ·have hie : i + 1 = c.S.length := by omega
   have hiz := qY (c.M.getD i RR.zero) (hx := oQ c hc i) (by decide)
   have hbf : bg c.m c.S.length = c.m i := by rw [← hie];rfl
   rw [show min i (c.S.length - 1) = i by omega]
   by_cases hm : c.m i = 0
   ·rw [decide_eq_true hm] at hiz
    repeat refine ac rfl ?_
    refine bm rfl rfl rfl rfl rfl rfl rfl hx rfl ?_
    repeat refine ac rfl ?_
    rw [hw]
    refine ae rfl ?_ ?_<;>intro h
    ·have := of_decide_eq_true h
     exfalso
     omega
    ·clear h
     repeat refine ac rfl ?_
     refine bm rfl rfl rfl rfl rfl rfl rfl hmx rfl ?_
     repeat refine ac rfl ?_
     refine aT rfl rfl rfl hiz rfl rfl rfl ?_
     repeat refine ac rfl ?_
     refine ⟨i + 1,⟨by omega,fun _ => by rw [hbf];exact hm⟩,by omega,rfl,rfl,rfl,rfl,rfl,congrArg I hw,rfl,rfl,?_,trivial⟩
     show (_ : Nat × Option Cont) = (1,some (Cont.mk 26 4 [eR (ofQ (ak (eu c.s c.m) (min (i + 1) (c.S.length - 1))))] 2))
     rw [show min (i + 1) (c.S.length - 1) = i by omega]
     rfl
   ·rw [decide_eq_false hm] at hiz
    rw [if_neg (by rw [hbf];exact hm)] at hR
    subst hR
    repeat refine ac rfl ?_
    refine bm rfl rfl rfl rfl rfl rfl rfl hx rfl ?_
    repeat refine ac rfl ?_
    rw [hw]
    refine ae rfl ?_ ?_<;>intro h
    ·have := of_decide_eq_true h
     exfalso
     omega
    ·clear h
     repeat refine ac rfl ?_
     refine bm rfl rfl rfl rfl rfl rfl rfl hmx rfl ?_
     repeat refine ac rfl ?_
     refine aT rfl rfl rfl hiz rfl rfl rfl ?_
     repeat refine ac rfl ?_
     exact aF rfl rfl rfl
 ·have hie : i = c.S.length := by have := of_decide_eq_false h;omega
  clear h
  have hb := hlast hie
  rw [if_pos hb,qO hb] at hR
  subst hR
  rw [show min i (c.S.length - 1) = c.S.length - 1 by omega]
  repeat refine ac rfl ?_
  exact aF rfl rfl rfl
theorem pM (w : Int) (hw : i64 w) (x : RR) (r : AR) {p A B : Rat} {k n m : Nat} (hx : Vq x p k) (hr : Va r A B n m) (h1 : k ≤ 1000000) (h2 : n ≤ 1000000) (h3 : m ≤ 1000000) : Ret Tryz.prog .shared 97 [I w,.agg (eR x),.agg (eA r)] (.agg (eR (ofQ ((w : Rat) * (A + B * p))))) := by
 have zw : Zb w := aN hw.1 hw.2
 have d1 := aS w hw
 have d2 := dV r.t x (hx := hr.t) (hy := hx) (by omega) (by omega)
 have v2 : Vq (ofQ (B * p)) (B * p) (m + 1 + (k + 1)) := Vq.ofQ (h := @HQ.mul _ _ (m + 1) (k + 1) hr.t.hq hx.hq)
 have d3 := dj r.z (ofQ (B * p)) (hx := hr.z) (hy := v2) (by omega) (by omega)
 have v3 : Vq (ofQ (A + B * p)) (A + B * p) (n + 1 + (m + 1 + (k + 1)) + 1) := Vq.ofQ (h := @HQ.add _ _ (n + 1) _ hr.z.hq (b8 v2))
 have d4 := dV (ofQ (w : Rat)) (ofQ (A + B * p)) (hy := v3) (by decide) (by omega)
 generalize ofQ ((w : Rat) * (A + B * p)) = X4 at *
 generalize ofQ (A + B * p) = X3 at *
 generalize ofQ (B * p) = X2 at *
 generalize ofQ (w : Rat) = X1 at *
 obtain ⟨az,at'⟩ := r
 try simp only at *
 refine Ret.of_pwp layOk mixed Go.Proofs.Tryz.func97 rfl (by decide) rfl rfl ?_
 repeat refine ac rfl ?_
 refine am 10 [7,8,9,10,11,12,13,14,15,16] (by decide +kernel) ?_
 repeat refine ac rfl ?_
 refine aq rfl rfl rfl d1 rfl rfl ?_
 repeat refine ac rfl ?_
 refine aq rfl rfl rfl d2 rfl rfl ?_
 repeat refine ac rfl ?_
 refine aq rfl rfl rfl d3 rfl rfl ?_
 repeat refine ac rfl ?_
 refine aq rfl rfl rfl d4 rfl rfl ?_
 repeat refine ac rfl ?_
 exact aF rfl rfl rfl
def cI (l : List SR) (i : Nat) : Rat := kw (l.getD i dS).k.S.length (l.getD i dS).k.s (l.getD i dS).k.m
def zo (l : List SR) (i : Nat) : Prop := bg (l.getD i dS).k.m (l.getD i dS).k.S.length = 0
def yT (l : List SR) (A B : Rat) (i : Nat) : Rat := if 0 < A + B * xI l i then cI l i * (A + B * xI l i) else 0
def fH (l : List SR) (A B : Rat) (n : Nat) : Prop := ∀ i,i < n → 0 < A + B * xI l i → zo l i
noncomputable def yp (l : List SR) (A B : Rat) : PV := @ite _ (fH l A B l.length) (Classical.propDecidable _) (.tup [.agg (eR (ofQ (ak (yT l A B) l.length))),.bool true]) (.tup [.agg zN,.bool false])
theorem uf {c : CR} (hc : c.Lim) (h8 : c.S.length ≤ 8) (h0 : bg c.m c.S.length = 0) : HQ (kw c.S.length c.s c.m) 200 := by
 rw [qO h0]
 exact (be (c.S.length - 1) fun k _ => nb hc k).mono (by omega)
theorem yP {l : List SR} (hl : fE l) (hf : n3 l) {A B : Rat} {n m : Nat} (hA : HQ A n) (hB : HQ B m) {i : Nat} (hi : i < l.length) (ha : 0 < A + B * xI l i → zo l i) : HQ (yT l A B i) (200 + (n + (m + 4) + 1)) := by
 rw [yT]
 split
 ·rename_i h
  have hx := (hl.1 _ (aK hi)).x
  have hx : Zb (l.getD i dS).x := aN hx.1 hx.2
  exact @HQ.mul _ _ 200 (n + (m + 4) + 1) (uf (hl.1 _ (aK hi)).k (hf.2 _ (aK hi)) (ha h)) (@HQ.add _ _ n (m + 4) hA (@HQ.mul _ _ m 4 hB HQ.int))
 ·exact HQ.zero.mono (by omega)
set_option maxRecDepth 20000 in
theorem tG (l : List SR) (hl : fE l) (hf : n3 l) (hck : br l = 0) (r : AR) {A B : Rat} {n m : Nat} (hr : Va r A B n m) (h2 : n ≤ 100000) (h3 : m ≤ 100000) : Ret Tryz.prog .shared 96 [.sl (l.map eS),.agg (eA r)] (yp l A B) := by
 have hw0 := aS 0 ⟨by decide,by decide⟩
 rw [show (((0 : Int) : Rat)) = 0 from rfl] at hw0
 have hml : (l.map eS).length = l.length := by simp
 have hz := hr.z.hq
 have ht := hr.t.hq
 have h12 := hf.1
 generalize hR : yp l A B = R
 rw [yp] at hR
 obtain ⟨rz,rt⟩ := r
 have hrz := hr.z
 have hrt := hr.t
 simp only at hrz hrt
 refine Ret.of_pwp layOk mixed Go.Proofs.Tryz.func96 rfl (by decide) rfl rfl ?_
 repeat refine ac rfl ?_
 refine aq rfl rfl rfl hw0 rfl rfl ?_
 repeat refine ac rfl ?_
 refine ax (fun i : Nat => i ≤ l.length ∧ fH l A B i) (fun i => [(3,.ptr 3 1 0 0),(4,.ptr 4 1 0 0),(6,.ptr 6 1 0 0),(14,.sl (l.map eS)),(15,I l.length),(16,I (i : Nat))])
  (fun i => [(3,1,⟨62,8,[eA ⟨rz,rt⟩],2⟩),(4,1,⟨26,4,[zN],2⟩),(6,1,⟨26,4,[eR (ofQ (ak (yT l A B) i))],2⟩)]) (fun i => l.length - i) 0 ⟨Nat.zero_le _,fun i hi => by omega⟩ ⟨rfl,rfl,rfl,rfl,by rw [← hml];rfl,rfl,rfl,rfl,rfl,trivial⟩ ?_
 intro i s ⟨hi,hall⟩
 repeat refine ac rfl ?_
 refine ae rfl ?_ ?_<;>intro h
 ·have hlt : i < l.length := by have := of_decide_eq_true h;omega
  clear h
  have hx := aW (d := dS) hlt
  have hsl := hl.1 _ (aK hlt)
  have h8 := hf.2 _ (aK hlt)
  have hkc := bZ hck _ (aK hlt)
  have hxx := hsl.x
  have hzb : Zb (l.getD i dS).x := aN hxx.1 hxx.2
  have hw := f7 i
  have e1 := aS (l.getD i dS).x hxx
  rw [show ((l.getD i dS).x : Rat) = xI l i from rfl] at e1
  have vx : Vq (ofQ (xI l i)) (xI l i) 4 := Vq.ofQ (h := HQ.int)
  have e2 := dV rt (ofQ (xI l i)) (hx := hrt) (hy := vx) (by omega) (by decide)
  have v2 : Vq (ofQ (B * xI l i)) (B * xI l i) (m + 1 + 4) := Vq.ofQ (h := @HQ.mul _ _ (m + 1) 4 ht HQ.int)
  have e3 := dj rz (ofQ (B * xI l i)) (hx := hrz) (hy := v2) (by omega) (by omega)
  have v3 : Vq (ofQ (A + B * xI l i)) (A + B * xI l i) (n + 1 + (m + 1 + 4) + 1) := Vq.ofQ (h := @HQ.add _ _ (n + 1) _ hz (b8 v2))
  have e4 := lr (ofQ (A + B * xI l i)) (hx := v3) (by omega)
  have hsg := v8 (A + B * xI l i)
  by_cases hd : 0 < A + B * xI l i
  ·have hsn : ¬ sgn (A + B * xI l i) ≤ 0 := fun h => by have := hsg.1 h;grind
   have e5 := nc (l.getD i dS).k hsl.k hkc
   rw [xb] at e5
   generalize sgn (A + B * xI l i) = g at *
   by_cases hlim : zo l i
   ·rw [if_pos (show bg (l.getD i dS).k.m (l.getD i dS).k.S.length = 0 from hlim)] at e5
    have hcl := uf hsl.k h8 hlim
    rw [show kw (l.getD i dS).k.S.length (l.getD i dS).k.s (l.getD i dS).k.m = cI l i from rfl] at e5 hcl
    have vc : Vq (ofQ (cI l i)) (cI l i) 200 := Vq.ofQ (h := hcl)
    have e6 := dV (ofQ (cI l i)) (ofQ (A + B * xI l i)) (hx := vc) (hy := v3) (by decide) (by omega)
    have hall' : fH l A B (i + 1) := fun j hj hp => by
     by_cases hje : j = i
     ·subst hje;exact hlim
     ·exact hall j (by omega) hp
    have v6 : Vq (ofQ (cI l i * (A + B * xI l i))) (cI l i * (A + B * xI l i)) (200 + (n + 1 + (m + 1 + 4) + 1)) := Vq.ofQ (h := @HQ.mul _ _ 200 _ hcl (b8 v3))
    have v7 : Vq (ofQ (ak (yT l A B) i)) (ak (yT l A B) i) (i * (200 + (n + 1 + (m + 1 + 4) + 1) + 1) + 4) := Vq.ofQ (h := be i fun k hk => yP hl hf hz ht (by omega) (hall k hk))
    have e7 := dj (ofQ (ak (yT l A B) i)) (ofQ (cI l i * (A + B * xI l i))) (hx := v7) (hy := v6) (by have := Nat.mul_le_mul (show i ≤ 12 by omega) (show 200 + (n + 1 + (m + 1 + 4) + 1) + 1 ≤ 200208 by omega);omega) (by omega)
    rw [show ak (yT l A B) i + cI l i * (A + B * xI l i) = ak (yT l A B) (i + 1) by rw [ak,yT,if_pos hd]] at e7
    generalize ofQ (ak (yT l A B) i) = K0 at *
    generalize hK1 : ofQ (ak (yT l A B) (i + 1)) = K1 at *
    generalize ofQ (cI l i * (A + B * xI l i)) = P0 at *
    generalize ofQ (cI l i) = C0 at *
    generalize ofQ (A + B * xI l i) = D0 at *
    generalize ofQ (B * xI l i) = D1 at *
    generalize ofQ (xI l i) = D2 at *
    repeat refine ac rfl ?_
    refine bm rfl rfl rfl rfl rfl rfl rfl hx rfl ?_
    (repeat ((fail_if_success (with_reducible refine aP 5 ?_));refine cF rfl ?_))
    refine aB (gD 9) ?_
    refine aZ 9 1 [20,21,22,23,24,25,26,27,28,9] [] (by decide +kernel) rfl ?_
    repeat refine ac rfl ?_
    refine aq rfl rfl rfl e1 rfl rfl ?_
    repeat refine ac rfl ?_
    refine aq rfl rfl rfl e2 rfl rfl ?_
    repeat refine ac rfl ?_
    refine aq rfl rfl rfl e3 rfl rfl ?_
    repeat refine ac rfl ?_
    refine aT rfl rfl rfl e4 rfl rfl rfl ?_
    repeat refine ac rfl ?_
    refine ae rfl ?_ ?_<;>intro h
    ·exact absurd (of_decide_eq_true h) hsn
    clear h
    repeat refine ac rfl ?_
    refine aq rfl rfl rfl e5 rfl rfl ?_
    repeat refine ac rfl ?_
    refine am 5 [42,43,44,45,46] (by decide +kernel) ?_
    repeat refine ac rfl ?_
    refine aq rfl rfl rfl e6 rfl rfl ?_
    repeat refine ac rfl ?_
    refine aq rfl rfl rfl e7 rfl rfl ?_
    repeat refine ac rfl ?_
    refine ⟨i + 1,⟨by omega,hall'⟩,by omega,rfl,rfl,rfl,rfl,rfl,congrArg I hw,rfl,rfl,?_,trivial⟩
    show (_ : Nat × Option Cont) = (1,some (Cont.mk 26 4 [eR (ofQ (ak (yT l A B) (i + 1)))] 2))
    rw [hK1]
    rfl
   ·rw [if_neg (show ¬ bg (l.getD i dS).k.m (l.getD i dS).k.S.length = 0 from hlim)] at e5
    rw [if_neg (fun h => hlim (h i hlt hd))] at hR
    subst hR
    generalize ofQ (A + B * xI l i) = D0 at *
    generalize ofQ (B * xI l i) = D1 at *
    generalize ofQ (xI l i) = D2 at *
    repeat refine ac rfl ?_
    refine bm rfl rfl rfl rfl rfl rfl rfl hx rfl ?_
    (repeat ((fail_if_success (with_reducible refine aP 5 ?_));refine cF rfl ?_))
    refine aB (gD 9) ?_
    refine aZ 9 1 [20,21,22,23,24,25,26,27,28,9] [] (by decide +kernel) rfl ?_
    repeat refine ac rfl ?_
    refine aq rfl rfl rfl e1 rfl rfl ?_
    repeat refine ac rfl ?_
    refine aq rfl rfl rfl e2 rfl rfl ?_
    repeat refine ac rfl ?_
    refine aq rfl rfl rfl e3 rfl rfl ?_
    repeat refine ac rfl ?_
    refine aT rfl rfl rfl e4 rfl rfl rfl ?_
    repeat refine ac rfl ?_
    refine ae rfl ?_ ?_<;>intro h
    ·exact absurd (of_decide_eq_true h) hsn
    clear h
    repeat refine ac rfl ?_
    refine aq rfl rfl rfl e5 rfl rfl ?_
    repeat refine ac rfl ?_
    exact aF rfl rfl rfl
  ·have hsn : sgn (A + B * xI l i) ≤ 0 := hsg.2 (by grind)
   have hall' : fH l A B (i + 1) := fun j hj hp => by
    by_cases hje : j = i
    ·subst hje;exact absurd hp hd
    ·exact hall j (by omega) hp
   have hsum : ak (yT l A B) (i + 1) = ak (yT l A B) i := by rw [ak,yT,if_neg hd];grind
   generalize sgn (A + B * xI l i) = g at *
   generalize ofQ (A + B * xI l i) = D0 at *
   generalize ofQ (B * xI l i) = D1 at *
   generalize ofQ (xI l i) = D2 at *
   repeat refine ac rfl ?_
   refine bm rfl rfl rfl rfl rfl rfl rfl hx rfl ?_
   (repeat ((fail_if_success (with_reducible refine aP 5 ?_));refine cF rfl ?_))
   refine aB (gD 9) ?_
   refine aZ 9 1 [20,21,22,23,24,25,26,27,28,9] [] (by decide +kernel) rfl ?_
   repeat refine ac rfl ?_
   refine aq rfl rfl rfl e1 rfl rfl ?_
   repeat refine ac rfl ?_
   refine aq rfl rfl rfl e2 rfl rfl ?_
   repeat refine ac rfl ?_
   refine aq rfl rfl rfl e3 rfl rfl ?_
   repeat refine ac rfl ?_
   refine aT rfl rfl rfl e4 rfl rfl rfl ?_
   repeat refine ac rfl ?_
   refine ae rfl ?_ ?_<;>intro h
   ·clear h
    repeat refine ac rfl ?_
    refine ⟨i + 1,⟨by omega,hall'⟩,by omega,rfl,rfl,rfl,rfl,rfl,congrArg I hw,rfl,rfl,?_,trivial⟩
    show (_ : Nat × Option Cont) = (1,some (Cont.mk 26 4 [eR (ofQ (ak (yT l A B) (i + 1)))] 2))
    rw [hsum]
    rfl
   ·exact absurd hsn (of_decide_eq_false h)
 ·have hie : i = l.length := by have := of_decide_eq_false h;omega
  clear h
  subst hie
  rw [if_pos hall] at hR
  subst hR
  repeat refine ac rfl ?_
  exact aF rfl rfl rfl
noncomputable def ld (b : BR) (A B : Rat) : Bool := @decide (fH b.l A B b.l.length ∧ ak (yT b.l A B) b.l.length < (b.w : Rat) * (A + B * b.a.val)) (Classical.propDecidable _)
set_option maxRecDepth 20000 in
theorem jN (b : BR) (hb : b.Ok) (r : AR) {A B : Rat} {n m : Nat} (hr : Va r A B n m) (h2 : n ≤ 90000) (h3 : m ≤ 90000) : Ret Tryz.prog .shared 116 [.agg (eB b),.agg (eA r)] (.bool (ld b A B)) := by
 have h1 := tG b.l hb.lim.l hb.few hb.chkL r hr (by omega) (by omega)
 have zw : Zb b.w := aN hb.lim.w.1 hb.lim.w.2
 have hd := pM b.w hb.lim.w b.a r hb.lim.a.v hr (by decide) (by omega) (by omega)
 have vd : Vq (ofQ ((b.w : Rat) * (A + B * b.a.val))) ((b.w : Rat) * (A + B * b.a.val)) (4 + (n + 1 + (m + 1 + 13) + 1)) := Vq.ofQ (h := @HQ.mul _ _ 4 _ HQ.int (@HQ.add _ _ (n + 1) _ hr.z.hq (@HQ.mul _ _ (m + 1) 13 hr.t.hq hb.lim.a.v.hq)))
 rw [yp] at h1
 by_cases hall : fH b.l A B b.l.length
 ·rw [if_pos hall] at h1
  have h12 := hb.few.1
  have hs := be (m := 200 + (n + 1 + (m + 1 + 4) + 1)) b.l.length fun k hk => yP hb.lim.l hb.few hr.z.hq hr.t.hq hk (hall k hk)
  have vs : Vq (ofQ (ak (yT b.l A B) b.l.length)) (ak (yT b.l A B) b.l.length) (b.l.length * (200 + (n + 1 + (m + 1 + 4) + 1) + 1) + 4) := Vq.ofQ (h := hs)
  have hc := nf (ofQ (ak (yT b.l A B) b.l.length)) (ofQ ((b.w : Rat) * (A + B * b.a.val))) (hx := vs) (hy := vd) (by have := Nat.mul_le_mul (show b.l.length ≤ 12 by omega) (show 200 + (n + 1 + (m + 1 + 4) + 1) + 1 ≤ 180210 by omega);omega) (by omega)
  have hsl := d9 (ak (yT b.l A B) b.l.length - (b.w : Rat) * (A + B * b.a.val))
  have key : ld b A B = decide (sgn (ak (yT b.l A B) b.l.length - (b.w : Rat) * (A + B * b.a.val)) < 0) := by
   rw [ld,decide_eq_decide,hsl]
   constructor
   ·intro h;have := h.2;grind
   ·intro h;exact ⟨hall,by grind⟩
  rw [key]
  generalize sgn (ak (yT b.l A B) b.l.length - (b.w : Rat) * (A + B * b.a.val)) = g at *
  generalize ofQ (ak (yT b.l A B) b.l.length) = S at *
  generalize ofQ ((b.w : Rat) * (A + B * b.a.val)) = D at *
  obtain ⟨w,ba,l⟩ := b
  obtain ⟨rz,rt⟩ := r
  try simp only at *
  refine Ret.of_pwp layOk mixed Go.Proofs.Tryz.func116 rfl (by decide) rfl rfl ?_
  repeat refine ac rfl ?_
  refine aq rfl rfl rfl h1 rfl rfl ?_
  repeat refine ac rfl ?_
  refine am 13 [14,15,16,17,18,19,20,21,22,23,24,25,4] (by decide +kernel) ?_
  repeat refine ac rfl ?_
  refine aq rfl rfl rfl hd rfl rfl ?_
  repeat refine ac rfl ?_
  refine aT rfl rfl rfl hc rfl rfl rfl ?_
  repeat refine ac rfl ?_
  exact bj rfl rfl rfl
 ·rw [if_neg hall] at h1
  have key : ld b A B = false := by
   unfold ld
   exact @decide_eq_false _ (Classical.propDecidable _) (fun h => hall h.1)
  rw [key]
  clear hd vd
  obtain ⟨w,ba,l⟩ := b
  obtain ⟨rz,rt⟩ := r
  try simp only at *
  refine Ret.of_pwp layOk mixed Go.Proofs.Tryz.func116 rfl (by decide) rfl rfl ?_
  repeat refine ac rfl ?_
  refine aq rfl rfl rfl h1 rfl rfl ?_
  repeat refine ac rfl ?_
  refine am 13 [14,15,16,17,18,19,20,21,22,23,24,25,4] (by decide +kernel) ?_
  repeat refine ac rfl ?_
  exact bj rfl rfl rfl
end Go.Pv
namespace Go.Pv
open Go.RowKit Go.Sort
section
variable {P : Program} {L : Lay} {C : Ctx} {γ : Nat → Option Nat} {s : St} {a : Act} {w w' : World}
structure Chg (w w' : World) (b : Nat) (T : TypeId) (cur : Array Value) : Prop where
 os : w'.os = w.os
 tape : w'.tape = w.tape
 output : w'.output = w.output
 size : w.heap.size ≤ w'.heap.size
 other : ∀ b',b' ≠ b → b' < w.heap.size → w'.heap[b']? = w.heap[b']?
 at_ : w'.heap[b]? = some (.cells cur T (0,0))
theorem qQ (h : Sim C γ s a w) {k g b : Nat} {c c' : Cont} {cur cur' : Array Value} (ho : s.own k = (g,some c)) (hb : γ k = some b) (hh : w.heap[b]? = some (.cells cur c.ty (0,0))) (hsz : cur'.size = cur.size)
  (hc : Chg w w' b c.ty cur') (h1 : c'.ty = c.ty) (h2 : c'.sz = c.sz) (h3 : c.rows.length ≤ c'.rows.length) (hs : SiteOk (ah C γ (s.setOwn k g (some c')) (w.setRow b cur')) (some b) c') : Sim C γ (s.setOwn k g (some c')) a w' := by
 refine (mP h ho hb hh hsz h1 h2 h3 hs).ext ⟨hc.os,hc.tape,hc.output,by simpa using hc.size,fun b' hb' => ?_⟩
 have hb'' : b' < w.heap.size := by simpa using hb'
 by_cases he : b' = b
 ·subst he
  rw [hc.at_,setRow_heap w b' cur cur' c.ty (0,0) hh]
 ·rw [hc.other b' he hb'',setRow_other w b b' cur' he]
theorem qP {α : Type} [Inhabited α] {e : α → Value} {q b : Nat} {d' : Array α} {os : Array Obj} {T : TypeId} {cur : Array Value} (hh : w.heap[b]? = some (.cells cur T (0,0))) (hw : w' = grow (putRow e (Sort.ahead w q) b 0 d') os) : Chg w w' b T (putCells e 0 d' cur) := by
 have hlt : b < w.heap.size := (Array.getElem?_eq_some_iff.1 hh).1
 subst hw
 refine ⟨rfl,rfl,rfl,by simp,fun b' hne hb' => ?_,?_⟩
 ·rw [heap_grow_old _ _ (by simpa using hb')]
  show (w.heap.modify b _)[b']? = _
  rw [Array.getElem?_modify,if_neg (Ne.symm hne)]
 ·rw [heap_grow_old _ _ (by simpa using hlt)]
  show (w.heap.modify b _)[b]? = _
  rw [Array.getElem?_modify,if_pos rfl,hh]
  rfl
theorem gG {α : Type} [Inhabited α] (e : α → Value) (off : Nat) (d : Array α) (c : Array Value) : (putCells e off d c).size = c.size := by simp [putCells]
theorem gH {α : Type} [Inhabited α] (e : α → Value) (d : Array α) (c : Array Value) (h : d.size ≤ c.size) : (putCells e 0 d c).toList.take d.size = d.toList.map e := by
 apply List.ext_getElem
 ·simp [putCells];omega
 intro i h1 h2
 have hi : i < d.size := by simpa using h2
 simp [putCells,hi]
theorem p8 {E : Env} {k : Nat} {c : PV} (h : fU c = true) : KRep E k c (scv c) := by
 match k with
 |0 => exact (dY h _ _).1
 |1 => exact (dY h _ _).1
 |_ + 2 => exact .d (dY h _ _).1
def fC {α : Type} (enc : α → List PV) (l : List α) : List Value := l.flatMap fun x => (enc x).map scv
theorem sy {α : Type} {enc : α → List PV} {sz : Nat} (h : ∀ x,(enc x).length = sz) (l : List α) : (fC enc l).length = l.length * sz := by
 induction l with
 |nil => simp [fC]
 |cons x l ih => simp only [fC,List.flatMap_cons,List.length_append,List.length_map,List.length_cons,h,Nat.add_mul,Nat.one_mul] at ih ⊢;omega
theorem iE {α : Type} {enc : α → List PV} {sz : Nat} (h : ∀ x,(enc x).length = sz) : ∀ (l : List α) (i j : Nat) (x : α) (c : PV),l[i]? = some x → (enc x)[j]? = some c → (fC enc l)[i * sz + j]? = some (scv c)
 |[],i,j,x,c,h1,_ => by simp at h1
 |y :: l,0,j,x,c,h1,h2 => by
  simp at h1;subst h1
  have hj := (List.getElem?_eq_some_iff.1 h2).1
  rw [fC,List.flatMap_cons,List.getElem?_append_left (by simp;omega),List.getElem?_map,Nat.zero_mul,Nat.zero_add,h2];rfl
 |y :: l,i + 1,j,x,c,h1,h2 => by
  have ih := iE h l i j x c (by simpa using h1) h2
  rw [fC,List.flatMap_cons,List.getElem?_append_right (by rw [List.length_map,h,Nat.add_mul];omega),List.length_map,h]
  rw [show (i + 1) * sz + j - sz = i * sz + j by rw [Nat.add_mul];omega]
  exact ih
theorem rK {l m : List Value} {n i : Nat} {v : Value} (h : l.take n = m) (hi : m[i]? = some v) : l[i]? = some v := by
 rw [← h,List.getElem?_take] at hi
 split at hi
 ·exact hi
 ·cases hi
def AN (ro : Option Nat) (a : Option Addr) (cap : Nat) : Value := match ro with
 |none => .tuple #[]
 |some n => .slice a n cap
def Bf (ro : Option Nat) (k g : Nat) : PV := match ro with
 |none => .tup []
 |some n => .als k g 0 n
variable [Globs]
theorem lv {α : Type} {enc : α → List PV} {l : List α} {d k g m sz kd f : Nat} {T ty : TypeId} {pos : String} {af : Array Edge} {x fop : Operand} {more : List Operand} {mv : List FuncId} {tys : Array TypeId} {K : St → Prop} (ro : Option Nat) (Q : List α → Prop)
  (hpl : ∀ x,(enc x).all fU = true) (hlen : ∀ x,(enc x).length = sz) (hsz : 0 < sz) (hf : s.ev fop = .clo f []) (hx : s.ev x = .als k g 0 m) (hm : m = l.length) (ho : s.own k = (g,some ⟨T,sz,l.map enc,kd⟩)) (hmore : more.map s.ev = mv.map fun f => .clo f []) (hcal : cX P f) (hro : ∀ n,ro = some n → n ≤ l.length)
  (h0 : l = [] → Q [] ∧ ∀ w : World,Globs.glob w → Calls P f (Value.slice none 0 0 :: mv.map fun f => .func (.func f) #[] #[]).toArray w fun e w' => e = .returned (AN ro none 0) ∧ Below w.heap.size w w')
  (hcall : ∀ (w : World) (b cap : Nat) (cur : Array Value),w.heap[b]? = some (.cells cur T (0,0)) → l.length ≤ cap → l.length * sz ≤ cur.size → cur.toList.take (l.length * sz) = fC enc l → Globs.glob w →
   Calls P f (Value.slice (some ⟨b,0,none⟩) l.length cap :: mv.map fun f => .func (.func f) #[] #[]).toArray w fun e w' => ∃ l' cur',Q l' ∧ l'.length = l.length ∧ e = .returned (AN ro (some ⟨b,0,none⟩) cap) ∧ Chg w w' b T cur' ∧ cur'.size = cur.size ∧ cur'.toList.take (l.length * sz) = fC enc l')
  (h : ∀ l',Q l' → l'.length = l.length → K ((s.setOwn k g (some ⟨T,sz,l'.map enc,kd⟩)).putR d (Bf ro k g))) : Sm P L s ⟨some d,.call ⟨.value fop,(x :: more).toArray,tys⟩,ty,pos,af,none⟩ K := by
 intro C a w Qp hG hs hN
 obtain ⟨γ,hs⟩ := hs
 have hfv := hs.ev fop
 rw [hf] at hfv
 obtain ⟨vs,hv,hl,_⟩ := hfv.clo_inv
 have hvs : vs = [] := List.eq_nil_of_length_eq_zero (by simpa using hl.symm)
 subst hvs
 have hmv : more.map a.eval = mv.map fun f => Value.func (.func f) #[] #[] := by
  clear h0 hcall h
  induction more generalizing mv with
  |nil => cases mv with
   |nil => rfl
   |cons f mv => simp at hmore
  |cons y more ih => cases mv with
   |nil => simp at hmore
   |cons f mv =>
    simp only [List.map_cons,List.cons.injEq] at hmore ⊢
    have hy := hs.ev y
    rw [hmore.1] at hy
    obtain ⟨vs,hv,hl,_⟩ := hy.clo_inv
    have hvs : vs = [] := List.eq_nil_of_length_eq_zero (by simpa using hl.symm)
    subst hvs
    exact ⟨hv,ih hmore.2 hN⟩
 have hxr := hs.ev x
 rw [hx] at hxr
 have hals := hs.als_at hxr ho
 unfold Oper.wp
 rw [eZ (f := f) rfl hv hcal,Oper.upon_enter]
 simp only [List.map_cons,List.append_nil,hmv]
 have hglob := hG.glob _ hs.below
 rcases hals with ⟨h1,_,h3,h4⟩ | ⟨b,cap,cur,h1,h2,h3,h4,h5,h6,h7⟩
 ·have hnil : l = [] := List.eq_nil_of_length_eq_zero (by omega)
  rw [h4]
  refine ((h0 hnil).2 w hglob).mono ?_
  rintro e w' ⟨rfl,hbel⟩
  have hs' := hs.ext hbel
  have hst : s = s.setOwn k g (some ⟨T,sz,l.map enc,kd⟩) := by
   have : s.own = (s.setOwn k g (some ⟨T,sz,l.map enc,kd⟩)).own := by
    funext r
    by_cases hr : r = k
    ·subst hr;rw [ag,ho]
    ·rw [ar hr]
   cases s
   simp only [St.setOwn] at this ⊢
   rw [← this]
  have hKs := h [] (h0 hnil).1 (by rw [hnil])
  rw [hnil] at hst
  rw [← hst] at hKs
  refine ⟨_,⟨γ,hs'.put (d := some d) hN ?_⟩,hKs⟩
  cases ro with
  |none => exact .tup [] [] rfl fun i c v e => by simp at e
  |some n =>
   have hn := hro n rfl
   rw [hnil] at hn
   have hn0 : n = 0 := by simpa using hn
   subst hn0
   refine .als (by simp [ah,ho]) fun _ l2 hl2 => ?_
   simp only [ah,ho,Option.map_some,Option.some.injEq] at hl2
   subst hl2
   exact .inl ⟨h1,rfl,rfl,rfl⟩
 ·subst hm
  rw [h2]
  simp only [Nat.zero_mul]
  have h3 : w.heap[b]? = some (.cells cur T (0,0)) := h3
  have hz : (0 + cap) * sz = cap * sz := by rw [Nat.zero_add]
  have hcs : cur.size = cap * sz := by rw [← hz];exact h6
  have hle : l.length * sz ≤ cur.size := by rw [hcs];exact Nat.mul_le_mul_right _ h4
  obtain ⟨cur0,g1,_,_,g4,g5⟩ := hs.site_at ho h1 hsz
  have g1 : w.heap[b]? = some (.cells cur0 T (0,0)) := g1
  rw [h3] at g1
  simp only [Option.some.injEq,Obj.cells.injEq,and_true] at g1
  subst g1
  have hflat : cur.toList.take (l.length * sz) = fC enc l := by
   apply List.ext_getElem?
   intro q
   by_cases hq : q < l.length * sz
   ·have hqi : q / sz < l.length := (Nat.div_lt_iff_lt_mul hsz).2 hq
    have hqj : q % sz < sz := Nat.mod_lt _ hsz
    have hqe : q / sz * sz + q % sz = q := by rw [Nat.mul_comm];exact Nat.div_add_mod q sz
    have hx1 : l[q / sz]? = some l[q / sz] := List.getElem?_eq_getElem hqi
    have hx2 : (enc l[q / sz])[q % sz]? = some ((enc l[q / sz])[q % sz]'(by rw [hlen];exact hqj)) := List.getElem?_eq_getElem _
    obtain ⟨v,e1,_,e3⟩ := g5 (q / sz) (q % sz) (enc l[q / sz]) _ (by rw [List.getElem?_map,hx1];rfl) hx2
    have hpv := List.all_eq_true.1 (hpl l[q / sz]) _ (List.mem_of_getElem? hx2)
    have hv := mx hpv (e3.rep ap)
    have := iE hlen l (q / sz) (q % sz) _ _ hx1 hx2
    rw [hqe] at this e1
    rw [this,List.getElem?_take,if_pos hq,Array.getElem?_toList,e1,hv]
   ·rw [List.getElem?_take,if_neg hq,List.getElem?_eq_none (by rw [sy hlen];omega)]
  refine (hcall w b cap cur h3 h4 hle hflat hglob).mono ?_
  rintro e w' ⟨l',cur',hQ,hl',rfl,hchg,hcz,hfl⟩
  have hsite : SiteOk (ah C γ (s.setOwn k g (some ⟨T,sz,l'.map enc,kd⟩)) (w.setRow b cur')) (some b) ⟨T,sz,l'.map enc,kd⟩ := by
   refine ⟨(fun e => by cases e),(fun b' _ hz => by simp only at hz;omega),(fun b' _ hz => by simp only at hz;omega),fun b' hb' _ => ?_⟩
   simp at hb';subst hb'
   refine ⟨cur',setRow_heap w b cur cur' T (0,0) h3,hsz,by simp only [List.length_map];rw [hl',hcz];exact hle,fun row hr => ?_,fun i j row pv e1 e2 => ?_⟩
   ·simp only [List.mem_map] at hr
    obtain ⟨y,_,rfl⟩ := hr
    exact hlen y
   ·simp only [List.getElem?_map,Option.map_eq_some_iff] at e1
    obtain ⟨y,hy,rfl⟩ := e1
    have hpv := List.all_eq_true.1 (hpl y) _ (List.mem_of_getElem? e2)
    have := rK hfl (iE hlen l' i j y pv hy e2)
    exact ⟨scv pv,by rw [← Array.getElem?_toList];exact this,(dY hpv w (fun _ => True)).2,p8 hpv⟩
  have hsim := qQ (c' := ⟨T,sz,l'.map enc,kd⟩) hs ho h1 h3 hcz hchg rfl rfl (by simp [hl']) hsite
  refine ⟨_,⟨γ,hsim.put (d := some d) hN ?_⟩,h l' hQ hl'⟩
  cases ro with
  |none => exact .tup [] [] rfl fun i c v e => by simp at e
  |some n =>
   have hn := hro n rfl
   refine .als (by simp [ah,ag]) fun _ l2 hl2 => ?_
   simp only [ah,ag,Option.map_some,Option.some.injEq] at hl2
   subst hl2
   exact .inr ⟨b,cap,cur',h1,by simp [AN],hchg.at_,by omega,h5,by rw [hcz];exact h6,by simp;omega⟩
end
end Go.Pv
namespace Go.Proofs
open Go.Shelf
def Tryz.lays189_ren : Go.Shelf.Ren := ⟨fun | 189 => 179 | 125 => 197 | 257 => 196 | 128 => 216 | 129 => 217 | 294 => 207 | 295 => 208 | 296 => 209 | 297 => 210 | 298 => 211 | 299 => 212 | 216 => 213 | 300 => 214 | 301 => 215 | 328 => 220 | 329 => 221 | 330 => 222 | 331 => 223 | 332 => 224 | 215 => 225 | 343 => 228 | n => n,fun | 28 => 86 | 3 => 3 | 46 => 192 | 0 => 0 | 51 => 218 | 53 => 170 | 4 => 4 | 183 => 223 | 182 => 222 | 131 => 228 | 5 => 5 | 9 => 9 | 218 => 233 | 222 => 237 | 228 => 241 | 229 => 242 | n => n,fun | n => n⟩
theorem Tryz.lays189 : Go.Proofs.Lays.n189 Tryz.prog Tryz.lays189_ren := {
 mixed := by kernel_rfl
 f125 := Tryz.func197.trans (congrArg some (by kernel_rfl))
 f128 := Tryz.func216.trans (congrArg some (by kernel_rfl))
 f129 := Tryz.func217.trans (congrArg some (by kernel_rfl))
 f189 := Tryz.func179.trans (congrArg some (by kernel_rfl))
 f215 := Tryz.func225.trans (congrArg some (by kernel_rfl))
 f216 := Tryz.func213.trans (congrArg some (by kernel_rfl))
 f257 := Tryz.func196.trans (congrArg some (by kernel_rfl))
 f294 := Tryz.func207.trans (congrArg some (by kernel_rfl))
 f295 := Tryz.func208.trans (congrArg some (by kernel_rfl))
 f296 := Tryz.func209.trans (congrArg some (by kernel_rfl))
 f297 := Tryz.func210.trans (congrArg some (by kernel_rfl))
 f298 := Tryz.func211.trans (congrArg some (by kernel_rfl))
 f299 := Tryz.func212.trans (congrArg some (by kernel_rfl))
 f300 := Tryz.func214.trans (congrArg some (by kernel_rfl))
 f301 := Tryz.func215.trans (congrArg some (by kernel_rfl))
 f328 := Tryz.func220.trans (congrArg some (by kernel_rfl))
 f329 := Tryz.func221.trans (congrArg some (by kernel_rfl))
 f330 := Tryz.func222.trans (congrArg some (by kernel_rfl))
 f331 := Tryz.func223.trans (congrArg some (by kernel_rfl))
 f332 := Tryz.func224.trans (congrArg some (by kernel_rfl))
 f343 := Tryz.func228.trans (congrArg some (by kernel_rfl))
 t0 := Tryz.underlying0
 a0 := Tryz.isAgg0
 z0 := Tryz.sizeOf0
 v0 := Tryz.zeroValue0
 t3 := Tryz.underlying3
 a3 := Tryz.isAgg3
 z3 := Tryz.sizeOf3
 v3 := Tryz.zeroValue3
 t4 := Tryz.underlying4
 a4 := Tryz.isAgg4
 z4 := Tryz.sizeOf4
 v4 := Tryz.zeroValue4
 t5 := Tryz.underlying5
 a5 := Tryz.isAgg5
 z5 := Tryz.sizeOf5
 v5 := Tryz.zeroValue5
 t9 := Tryz.underlying9
 a9 := Tryz.isAgg9
 z9 := Tryz.sizeOf9
 v9 := Tryz.zeroValue9
 t28 := Tryz.underlying86
 a28 := Tryz.isAgg86
 z28 := Tryz.sizeOf86
 v28 := Tryz.zeroValue86
 t46 := Tryz.underlying192
 a46 := Tryz.isAgg192
 z46 := Tryz.sizeOf192
 v46 := Tryz.zeroValue192
 t51 := Tryz.underlying218
 a51 := Tryz.isAgg218
 z51 := Tryz.sizeOf218
 v51 := Tryz.zeroValue218
 t53 := Tryz.underlying170
 a53 := Tryz.isAgg170
 z53 := Tryz.sizeOf170
 v53 := Tryz.zeroValue170
 t131 := Tryz.underlying228
 a131 := Tryz.isAgg228
 z131 := Tryz.sizeOf228
 v131 := Tryz.zeroValue228
 t182 := Tryz.underlying222
 a182 := Tryz.isAgg222
 z182 := Tryz.sizeOf222
 v182 := Tryz.zeroValue222
 t183 := Tryz.underlying223
 a183 := Tryz.isAgg223
 z183 := Tryz.sizeOf223
 v183 := Tryz.zeroValue223
 t218 := Tryz.underlying233
 a218 := Tryz.isAgg233
 z218 := Tryz.sizeOf233
 v218 := Tryz.zeroValue233
 t222 := Tryz.underlying237
 a222 := Tryz.isAgg237
 z222 := Tryz.sizeOf237
 v222 := Tryz.zeroValue237
 t228 := Tryz.underlying241
 a228 := Tryz.isAgg241
 z228 := Tryz.sizeOf241
 v228 := Tryz.zeroValue241
 t229 := Tryz.underlying242
 a229 := Tryz.isAgg242
 z229 := Tryz.sizeOf242
 v229 := Tryz.zeroValue242 }
open Go.Sort Go.RowKit in
theorem Tryz.slices_Sort_int (blk off cap : Nat) (zs : List Int) (w : World) (hH : Holds (Value.int .i64) w blk off zs.toArray) (hblk : blk < w.heap.size) (hsz : zs.length < 4611686018427387904) :
  Calls Tryz.prog 179 #[.slice (some ⟨blk,off,none⟩) zs.length cap] w fun e w' =>
   e = .returned (.tuple #[]) ∧ ∃ n os,w' = grow (putRow (Value.int .i64) (Sort.ahead w n) blk off (zs.mergeSort fun x y => decide (x ≤ y)).toArray) os := Any.slices_Sort_int Tryz.lays189 blk off cap zs w hH hblk hsz
def Tryz.laysNm220_ren : Go.Shelf.Ren := ⟨fun | 20 => 180 | n => n,fun | 22 => 86 | 3 => 3 | 4 => 4 | 0 => 0 | n => n,fun | n => n⟩
theorem Tryz.laysNm220 : Go.Proofs.Lays2.n20 Tryz.prog Tryz.laysNm220_ren := {
 mixed := by kernel_rfl
 f20 := Tryz.func180.trans (congrArg some (by kernel_rfl))
 t0 := Tryz.underlying0
 a0 := Tryz.isAgg0
 z0 := Tryz.sizeOf0
 v0 := Tryz.zeroValue0
 t3 := Tryz.underlying3
 a3 := Tryz.isAgg3
 z3 := Tryz.sizeOf3
 v3 := Tryz.zeroValue3
 t4 := Tryz.underlying4
 a4 := Tryz.isAgg4
 z4 := Tryz.sizeOf4
 v4 := Tryz.zeroValue4
 t22 := Tryz.underlying86
 a22 := Tryz.isAgg86
 z22 := Tryz.sizeOf86
 v22 := Tryz.zeroValue86
 i3 := by kernel_rfl }
open Go.RowKit Go.Lib Go.Sort in
theorem Tryz.slices_Compact_int (blk off cap : Nat) (zs : List Int) (w : World) (hH : Holds (Value.int .i64) w blk off zs.toArray) (hsz : zs.length ≤ 9223372036854775807) (hcap : zs.length ≤ cap) :
  Calls Tryz.prog 180 #[.slice (some ⟨blk,off,none⟩) zs.length cap] w fun e w' => e = .returned (.slice (some ⟨blk,off,none⟩) (Lib.compact zs).length cap) ∧ ∃ q,w' = putRow (Value.int .i64) (Sort.ahead w q) blk off (Lib.compact zs ++ List.replicate (zs.length - (Lib.compact zs).length) 0).toArray := Any.slices_Compact_int Tryz.laysNm220 blk off cap zs w hH hsz hcap
open Go.RowKit Go.Lib Go.Sort in
theorem Tryz.slices_Compact_int_empty (a : Option Addr) (cap : Nat) (w : World) :
  Calls Tryz.prog 180 #[.slice a 0 cap] w fun e w' => e = .returned (.slice a 0 cap) ∧ w' = w := Any.slices_Compact_int_empty Tryz.laysNm220 a cap w
open Go.RowKit Go.Sort in
theorem Tryz.slices_Sort_int_none (p : Option Addr) (cap : Nat) (w : World) :
  Calls Tryz.prog 179 #[.slice p 0 cap] w fun e w' => e = .returned (.tuple #[]) ∧ w' = w := Any.slices_Sort_int_none Tryz.lays189 p cap w
end Go.Proofs
