/- Texts of one hand, gathered: FsA, FsB, FsC, FsF, FsG, FsH, FsI, FsD, PvXw, FsE, FtB, FtC, FuA. -/
import Derived.Test.YtjejnoojnndnlaaGreatDa5
set_option linter.unusedSectionVars false
set_option linter.unusedSimpArgs false
set_option linter.unusedVariables false
set_option linter.unnecessarySimpa false
set_option maxHeartbeats 2000000
namespace Go.Pv
attribute [local irreducible] PWP POps PQuiet PSem au ar aj ai
open Go.Proofs
set_option maxRecDepth 20000 in
theorem qH (n : Nat) (hn : n < 18446744073709551616) : Ret Tryz.prog .shared 140 [.int .u64 (n : Nat)] (.sl ((ak n).map eU)) := by
 refine Ret.of_pwp layOk mixed Go.Proofs.Tryz.func140 rfl (by decide) rfl rfl ?_
 ((repeat (first | refine aS ?_ | refine b5 ?_ | refine bY ?_ | refine bX ?_));refine aX ?_)
 refine h_ rfl trivial ?_
 ((repeat (first | refine aS ?_ | refine b5 ?_ | refine bY ?_ | refine bX ?_));refine aX ?_)
 (first | refine ax (eW 180 1 0 rfl rfl ?_) | refine ax (eT 180 1 0 rfl rfl ?_))
 repeat refine aa rfl ?_
 refine ao (fun q : Nat × List UInt16 => (ak n = q.2 ++ ak q.1 ∧ q.1 < 18446744073709551616) ∧ q.1 * 65536 ^ q.2.length ≤ n) (fun q => [(0,.int .u64 (q.1 : Nat)),(3,.als 3 (1 + q.2.length) 0 (q.2.map eU).length)]) (fun q => [(3,1 + q.2.length,⟨180,1,q.2.map eU,0⟩)]) (fun q => q.1) (n,[]) ⟨⟨rfl,hn⟩,by simp⟩ ⟨rfl,rfl,rfl,trivial⟩ ?_
 rintro ⟨m,L⟩ s ⟨⟨hL,hmn⟩,hb⟩
 simp only at hL hb hmn
 dsimp only
 repeat refine aa rfl ?_
 refine ab rfl ?_ ?_<;>intro h
 ·have hm : 0 < m := by have := of_decide_eq_true h;omega
  clear h
  have hLl : L.length < 4 := by
   rcases Nat.lt_or_ge L.length 4 with h | h
   ·exact h
   ·exfalso
    have h1 : 65536 ^ 4 ≤ 65536 ^ L.length := Nat.pow_le_pow_right (by decide) h
    have h2 := Nat.mul_le_mul (show 1 ≤ m by omega) h1
    have : 1 * 65536 ^ 4 = 18446744073709551616 := by decide
    omega
  have hL2 := lD hL hm
  have hb2 : m / 65536 * 65536 ^ (L ++ [UInt16.ofNat m]).length ≤ n := by
   rw [List.length_append,List.length_singleton,Nat.pow_succ,Nat.mul_comm (65536 ^ _),← Nat.mul_assoc]
   exact Nat.le_trans (Nat.mul_le_mul_right _ (Nat.div_mul_le_self _ _)) hb
  have ha := zI m hmn
  have hcv : IntKind.u16.wrap ((m - m / 65536 * 65536 : Nat) : Int) = ((UInt16.ofNat m).toNat : Int) := by rw [wrap_u16,aL,aL];omega
  repeat refine aa rfl ?_
  rw [ha,hcv]
  refine bp rfl rfl (dg rfl rfl rfl rfl rfl rfl rfl rfl rfl rfl (by repeat' constructor) rfl) ?_
  refine ax (bP 0 rfl rfl rfl rfl rfl rfl rfl rfl rfl rfl rfl (by repeat' constructor) (by intro row hr;first | (simp at hr;subst hr;rfl) | simp at hr) rfl rfl (by simp;omega) (by simp;omega) ?_)
  repeat refine aa rfl ?_
  refine ⟨(m / 65536,L ++ [UInt16.ofNat m]),⟨⟨hL2,by simp only;omega⟩,hb2⟩,by simp only;omega,?_,?_,?_,trivial⟩
  ·show PV.int .u64 ((m : Int) / 2 ^ (16 : Int).toNat) = PV.int .u64 ((m / 65536 : Nat) : Int)
   rw [show ((2 : Int) ^ (16 : Int).toNat) = 65536 by decide];congr 1
  ·exact kw eU 3 1 L (UInt16.ofNat m)
  ·exact i2 eU 1 180 1 0 L (UInt16.ofNat m)
 ·have hm : m = 0 := by have := of_decide_eq_false h;omega
  subst hm
  clear h
  rw [bb,List.append_nil] at hL
  rw [hL]
  repeat refine aa rfl ?_
  exact fc rfl rfl rfl ⟨rfl,rfl,rfl⟩ rfl
set_option maxRecDepth 20000 in
theorem nO (z : Int) (hz : i64 z) : Ret Tryz.prog .shared 86 [I z] (.agg (eI (bL z))) := by
 obtain ⟨h0,h1⟩ := hz
 have hn := qH z.natAbs (by omega)
 by_cases hz : z < 0
 ·rw [bL,decide_eq_true hz]
  have w1 : IntKind.i64.wrap (z + 1) = z + 1 := wrap_i64 (by omega) (by omega)
  have w2 : IntKind.i64.wrap (0 - (z + 1)) = 0 - (z + 1) := wrap_i64 (by omega) (by omega)
  have w3 : IntKind.u64.wrap (0 - (z + 1)) = 0 - (z + 1) := wrap_u64 (by omega) (by omega)
  have w4 : IntKind.u64.wrap (0 - (z + 1) + 1) = ((z.natAbs : Nat) : Int) := by rw [wrap_u64 (by omega) (by omega)];omega
  generalize ak z.natAbs = A at *
  generalize ((z.natAbs : Nat) : Int) = na at *
  refine Ret.of_pwp layOk mixed Go.Proofs.Tryz.func86 rfl (by decide) rfl rfl ?_
  repeat refine aa rfl ?_
  refine ab rfl ?_ ?_<;>intro h
  ·clear h
   repeat refine aa rfl ?_
   rw [w1]
   repeat refine aa rfl ?_
   rw [w2]
   repeat refine aa rfl ?_
   rw [w3]
   repeat refine aa rfl ?_
   rw [w4]
   repeat refine aa rfl ?_
   refine ap rfl rfl rfl hn rfl rfl ?_
   repeat refine aa rfl ?_
   exact aK rfl rfl rfl
  ·exact absurd hz (of_decide_eq_false h)
 ·rw [bL,decide_eq_false hz]
  have w : IntKind.u64.wrap z = ((z.natAbs : Nat) : Int) := by rw [wrap_u64 (by omega) (by omega)];omega
  generalize ak z.natAbs = A at *
  refine Ret.of_pwp layOk mixed Go.Proofs.Tryz.func86 rfl (by decide) rfl rfl ?_
  repeat refine aa rfl ?_
  refine ab rfl ?_ ?_<;>intro h
  ·exact absurd (of_decide_eq_true h) hz
  ·clear h
   repeat refine aa rfl ?_
   rw [w]
   refine ap rfl rfl rfl hn rfl rfl ?_
   repeat refine aa rfl ?_
   exact aK rfl rfl rfl
theorem kZ (z : Int) (hz : i64 z) : Ret Tryz.prog .shared 25 [I z] (.agg (eR (ofQ (z : Rat)))) := by
 have h1 := nO z hz
 have h2 := nO 1 ⟨by decide,by decide⟩
 rw [pJ]
 generalize bL z = X at *
 generalize bL 1 = Y at *
 refine Ret.of_pwp layOk mixed Go.Proofs.Tryz.func25 rfl (by decide) rfl rfl ?_
 repeat refine aa rfl ?_
 refine ap rfl rfl rfl h1 rfl rfl ?_
 repeat refine aa rfl ?_
 refine ap rfl rfl rfl h2 rfl rfl ?_
 repeat refine aa rfl ?_
 exact aK rfl rfl rfl
set_option maxRecDepth 20000 in
theorem nr (a : RI) (ha : a.l.length ≤ 1000000000) : Ret Tryz.prog .shared 101 [.agg (eI a),.agg (eI a)] (.bool true) := by
 obtain ⟨n,l⟩ := a
 simp only at ha
 have hml : (l.map eU).length = l.length := by simp
 have hnn : (n != n) = false := by cases n <;> rfl
 have main : ∀ nn : Bool,nn = n → Ret Tryz.prog .shared 101 [.agg [.bool nn,.sl (l.map eU)],.agg [.bool nn,.sl (l.map eU)]] (.bool true) := by
  intro nn _
  cases nn <;>
  ·refine Ret.of_pwp layOk mixed Go.Proofs.Tryz.func101 rfl (by decide) rfl rfl ?_
   repeat refine aa rfl ?_
   refine ab rfl ?_ ?_<;>intro h
   ·simp at h
   clear h
   repeat refine aa rfl ?_
   refine ao (fun k => k ≤ l.length) (fun k => [(2,.ptr 2 1 0 0),(3,.ptr 3 1 0 0),(5,I (k : Nat))]) (fun _ => [(2,1,⟨24,2,[eI ⟨_,l⟩],2⟩),(3,1,⟨24,2,[eI ⟨_,l⟩],2⟩)]) (fun k => l.length - k) 0 (Nat.zero_le _) ⟨rfl,rfl,rfl,rfl,rfl,trivial⟩ ?_
   intro k s hk
   repeat refine aa rfl ?_
   refine ab rfl ?_ ?_<;>intro h
   ·have hlt : k < l.length := by have := of_decide_eq_true h;simp only [List.length_map] at this;omega
    clear h
    obtain ⟨x,hx⟩ := aH hlt
    have hw := jx k
    repeat refine aa rfl ?_
    refine ah 11 [27,28,29,30,31,32,33,34,35,36,37] (by decide +kernel) ?_
    repeat refine aa rfl ?_
    refine bO rfl rfl rfl rfl rfl rfl rfl hx rfl ?_
    repeat refine aa rfl ?_
    refine bO rfl rfl rfl rfl rfl rfl rfl hx rfl ?_
    repeat refine aa rfl ?_
    refine ab rfl ?_ ?_<;>intro h
    ·simp at h
    clear h
    repeat refine aa rfl ?_
    exact ⟨k + 1,hlt,by omega,rfl,rfl,congrArg I hw,rfl,rfl,trivial⟩
   ·repeat refine aa rfl ?_
    exact bm rfl rfl rfl
 exact main n rfl
def RR.le (x : RR) (n : Nat) : Prop := x.n.l.length ≤ n ∧ x.d.l.length ≤ n
theorem gV (x : RR) (hx : x.le 1000000000) : Ret Tryz.prog .shared 32 [.agg (eR x),.agg (eR x)] (.bool true) := by
 have h1 := nr x.n hx.1
 have h2 := nr x.d hx.2
 obtain ⟨xn,xd⟩ := x
 refine Ret.of_pwp layOk mixed Go.Proofs.Tryz.func32 rfl (by decide) rfl rfl ?_
 repeat refine aa rfl ?_
 refine aY rfl rfl rfl h1 rfl rfl rfl ?_
 repeat refine aa rfl ?_
 refine aY rfl rfl rfl h2 rfl rfl rfl ?_
 repeat refine aa rfl ?_
 exact bm rfl rfl rfl
theorem gw {p : Rat} {n : Nat} (h : HQ p n) (hn : n ≤ 100000000) : Ret Tryz.prog .shared 32 [.agg (eR (ofQ p)),.agg (eR (ofQ p))] (.bool true) := by
 have := eO h.ok
 exact gV _ ⟨by omega,by omega⟩
theorem fK (l : List RR) (hl : l.length ≤ 1000000) (hs : ∀ x ∈ l,x.le 1000000000) : Ret Tryz.prog .shared 45 [.sl (l.map eR),.sl (l.map eR)] (.bool true) := by
 have hml : (l.map eR).length = l.length := by simp
 refine Ret.of_pwp layOk mixed Go.Proofs.Tryz.func45 rfl (by decide) rfl rfl ?_
 repeat refine aa rfl ?_
 refine ab rfl ?_ ?_<;>intro h
 ·simp at h
 clear h
 repeat refine aa rfl ?_
 refine ao (fun k => k ≤ l.length) (fun k => [(0,.sl (l.map eR)),(1,.sl (l.map eR)),(5,I (k : Nat))]) (fun _ => []) (fun k => l.length - k) 0 (Nat.zero_le _) ⟨rfl,rfl,rfl,trivial⟩ ?_
 intro k s hk
 repeat refine aa rfl ?_
 refine ab rfl ?_ ?_<;>intro h
 ·have hlt : k < l.length := by have := of_decide_eq_true h;omega
  clear h
  obtain ⟨x,hx⟩ := aH hlt
  have hxr := gV x (hs x (List.mem_of_getElem? hx))
  have hw := jx k
  repeat refine aa rfl ?_
  refine ah 10 [17,18,19,20,21,22,23,24,25,26] (by decide +kernel) ?_
  repeat refine aa rfl ?_
  refine bO rfl rfl rfl rfl rfl rfl rfl hx rfl ?_
  repeat refine aa rfl ?_
  refine bO rfl rfl rfl rfl rfl rfl rfl hx rfl ?_
  repeat refine aa rfl ?_
  refine aY rfl rfl rfl hxr rfl rfl rfl ?_
  repeat refine aa rfl ?_
  exact ⟨k + 1,hlt,by omega,rfl,rfl,congrArg I hw,trivial⟩
 ·repeat refine aa rfl ?_
  exact bm rfl rfl rfl
theorem gv (a : AR) (hz : a.z.le 1000000000) (ht : a.t.le 1000000000) : Ret Tryz.prog .shared 46 [.agg (eA a),.agg (eA a)] (.bool true) := by
 have h1 := gV a.z hz
 have h2 := gV a.t ht
 obtain ⟨z,t⟩ := a
 refine Ret.of_pwp layOk mixed Go.Proofs.Tryz.func46 rfl (by decide) rfl rfl ?_
 repeat refine aa rfl ?_
 refine aY rfl rfl rfl h1 rfl rfl rfl ?_
 repeat refine aa rfl ?_
 refine aY rfl rfl rfl h2 rfl rfl rfl ?_
 repeat refine aa rfl ?_
 exact bm rfl rfl rfl
def oP (x : RR) (n : Nat) : Bool := decide (x.n.l.length ≤ n) && decide (x.d.l.length ≤ n)
theorem jT {x : RR} {n : Nat} : oP x n = true ↔ x.sz n := by rw [oP,Bool.and_eq_true,decide_eq_true_eq,decide_eq_true_eq];rfl
theorem fL (x : RR) (n : Nat) (hn : n ≤ 1000000) : Ret Tryz.prog .shared 17 [.agg (eR x),I (n : Nat)] (.bool (oP x n)) := by
 have e1 : decide ((((x.n.l.map eU).length : Nat) : Int) ≤ (n : Int)) = decide (x.n.l.length ≤ n) := by rw [decide_eq_decide,List.length_map];omega
 have e2 : decide ((((x.d.l.map eU).length : Nat) : Int) ≤ (n : Int)) = decide (x.d.l.length ≤ n) := by rw [decide_eq_decide,List.length_map];omega
 rw [oP,← e1,← e2]
 obtain ⟨⟨xn,xl⟩,⟨yn,yl⟩⟩ := x
 refine Ret.of_pwp layOk mixed Go.Proofs.Tryz.func17 rfl (by decide) rfl rfl ?_
 repeat refine aa rfl ?_
 refine fU rfl rfl rfl ?_ ?_<;>intro h
 ·rw [h]
  clear h
  repeat refine aa rfl ?_
  exact bm rfl rfl rfl
 ·rw [h]
  clear h
  repeat refine aa rfl ?_
  exact bm rfl rfl rfl
theorem oH (l : List RR) (n : Nat) (hn : n ≤ 1000000) (hl : l.length ≤ 9223372036854775807) : Ret Tryz.prog .shared 36 [.sl (l.map eR),I (n : Nat)] (.bool (l.all fun x => oP x n)) := by
 have hml : (l.map eR).length = l.length := by simp
 generalize hF : (l.all fun x => oP x n) = F
 refine Ret.of_pwp layOk mixed Go.Proofs.Tryz.func36 rfl (by decide) rfl rfl ?_
 repeat refine aa rfl ?_
 refine ao (fun k => k ≤ l.length ∧ ((l.drop k).all fun x => oP x n) = F) (fun k => [(0,.sl (l.map eR)),(1,I (n : Nat)),(5,I (k : Nat))]) (fun _ => []) (fun k => l.length - k) 0 ⟨Nat.zero_le _,by rw [List.drop_zero];exact hF⟩ ⟨rfl,rfl,rfl,trivial⟩ ?_
 intro k s ⟨hk,hD⟩
 repeat refine aa rfl ?_
 refine ab rfl ?_ ?_<;>intro h
 ·have hlt : k < l.length := by have := of_decide_eq_true h;omega
  clear h
  obtain ⟨x,hx⟩ := aH hlt
  have hr := fL x n hn
  have hw := jx k
  have hdr : ((l.drop k).all fun x => oP x n) = (oP x n && (l.drop (k + 1)).all fun x => oP x n) := by
   obtain ⟨hl1,h2⟩ := List.getElem?_eq_some_iff.1 hx
   rw [List.drop_eq_getElem_cons hl1,h2,List.all_cons]
  rw [hdr] at hD
  cases hs : oP x n with
  |true =>
   rw [hs] at hr hD
   rw [Bool.true_and] at hD
   repeat refine aa rfl ?_
   refine bO rfl rfl rfl rfl rfl rfl rfl hx rfl ?_
   repeat refine aa rfl ?_
   refine aY rfl rfl rfl hr rfl rfl rfl ?_
   repeat refine aa rfl ?_
   exact ⟨k + 1,⟨hlt,hD⟩,by omega,rfl,rfl,congrArg I hw,trivial⟩
  |false =>
   rw [hs] at hr hD
   rw [Bool.false_and] at hD
   subst hD
   repeat refine aa rfl ?_
   refine bO rfl rfl rfl rfl rfl rfl rfl hx rfl ?_
   repeat refine aa rfl ?_
   refine aY rfl rfl rfl hr rfl rfl rfl ?_
   repeat refine aa rfl ?_
   exact bm rfl rfl rfl
 ·have hie : k = l.length := by have := of_decide_eq_false h;omega
  clear h
  rw [hie,List.drop_length,List.all_nil] at hD
  subst hD
  repeat refine aa rfl ?_
  exact bm rfl rfl rfl
def uK (st : Nat) (s : SR) : Bool := !(decide (st < s.k.S.length) || decide (st + 1 < s.k.M.length) || !oP s.c 3 || !(s.k.M.all fun x => oP x 3))
theorem sH {st : Nat} {s : SR} : uK st s = true ↔ rx st s := by
 rw [uK,rx]
 simp only [Bool.not_eq_true',Bool.or_eq_false_iff,decide_eq_false_iff_not,Bool.not_eq_false',List.all_eq_true,jT]
 constructor
 ·rintro ⟨⟨⟨h1,h2⟩,h3⟩,h4⟩;exact ⟨by omega,by omega,h3,h4⟩
 ·rintro ⟨h1,h2,h3,h4⟩;exact ⟨⟨⟨by omega,by omega⟩,h3⟩,h4⟩
def AM (l : List SR) (most st : Nat) : Bool := decide (l.length ≤ most) && l.all (uK st)
theorem jp {l : List SR} {most st : Nat} : AM l most st = true ↔ jD l most st := by
 rw [AM,Bool.and_eq_true,decide_eq_true_eq,List.all_eq_true,jD]
 constructor
 ·rintro ⟨h1,h2⟩;exact ⟨h1,fun s hs => sH.1 (h2 s hs)⟩
 ·rintro ⟨h1,h2⟩;exact ⟨h1,fun s hs => sH.2 (h2 s hs)⟩
def x8 (l : List SR) : Prop := l.length ≤ 9223372036854775807 ∧ ∀ s ∈ l,s.k.S.length ≤ 9223372036854775807 ∧ s.k.M.length ≤ 9223372036854775807
set_option maxRecDepth 20000 in
theorem rq (l : List SR) (hll : x8 l) (most st : Nat) (hm : most ≤ 1000) (hst : st ≤ 1000) : Ret Tryz.prog .shared 16 [.sl (l.map eS),I (most : Nat),I (st : Nat)] (.bool (AM l most st)) := by
 have hml : (l.map eS).length = l.length := by simp
 by_cases h0 : most < l.length
 ·rw [AM,decide_eq_false (by omega),Bool.false_and]
  refine Ret.of_pwp layOk mixed Go.Proofs.Tryz.func16 rfl (by decide) rfl rfl ?_
  repeat refine aa rfl ?_
  refine ab rfl ?_ ?_<;>intro h
  ·clear h
   repeat refine aa rfl ?_
   exact bm rfl rfl rfl
  ·have := of_decide_eq_false h;omega
 rw [AM,decide_eq_true (by omega),Bool.true_and]
 generalize hF : (l.all (uK st)) = F
 refine Ret.of_pwp layOk mixed Go.Proofs.Tryz.func16 rfl (by decide) rfl rfl ?_
 repeat refine aa rfl ?_
 refine ab rfl ?_ ?_<;>intro h
 ·have := of_decide_eq_true h;omega
 clear h
 repeat refine aa rfl ?_
 refine ao (fun k => k ≤ l.length ∧ ((l.drop k).all (uK st)) = F) (fun k => [(0,.sl (l.map eS)),(2,I (st : Nat)),(7,I (k : Nat))]) (fun _ => []) (fun k => l.length - k) 0 ⟨Nat.zero_le _,by rw [List.drop_zero];exact hF⟩ ⟨rfl,rfl,rfl,trivial⟩ ?_
 intro k s ⟨hk,hD⟩
 repeat refine aa rfl ?_
 refine ab rfl ?_ ?_<;>intro h
 ·have hlt : k < l.length := by have := of_decide_eq_true h;omega
  clear h
  obtain ⟨x,hx⟩ := aH hlt
  have hl2 := hll.2 x (List.mem_of_getElem? hx)
  have hr := fL x.c 3 (by decide)
  have hr2 := oH x.k.M 3 (by decide) (by omega)
  have hw := jx k
  have hws : IntKind.i64.wrap (((st : Nat) : Int) + 1) = ((st + 1 : Nat) : Int) := by rw [wrap_i64 (by omega) (by omega)];omega
  have hdr : ((l.drop k).all (uK st)) = (uK st x && (l.drop (k + 1)).all (uK st)) := by
   obtain ⟨hl1,h2⟩ := List.getElem?_eq_some_iff.1 hx
   rw [List.drop_eq_getElem_cons hl1,h2,List.all_cons]
  rw [hdr] at hD
  have hsx : uK st x = uK st x := rfl
  conv at hsx => rhs;rw [uK]
  generalize uK st x = ok at *
  generalize oP x.c 3 = o1 at *
  obtain ⟨o2,ho2⟩ : ∃ o2,(x.k.M.all fun y => oP y 3) = o2 := ⟨_,rfl⟩
  rw [ho2] at hsx hr2
  clear ho2
  obtain ⟨xx,xc,⟨xS,xM⟩⟩ := x
  simp only at *
  have lS : (xS.map eN).length = xS.length := by simp
  have lM : (xM.map eR).length = xM.length := by simp
  by_cases hb1 : st < xS.length
  ·rw [decide_eq_true hb1] at hsx
   simp only [Bool.true_or,Bool.not_true] at hsx
   subst hsx
   rw [Bool.false_and] at hD
   subst hD
   repeat refine aa rfl ?_
   refine bO rfl rfl rfl rfl rfl rfl rfl hx rfl ?_
   repeat refine aa rfl ?_
   refine fU rfl rfl rfl ?_ ?_<;>intro h
   ·clear h
    repeat refine aa rfl ?_
    exact bm rfl rfl rfl
   ·exfalso
    have := of_decide_eq_false h
    simp only [lS] at this
    omega
  rw [decide_eq_false hb1,Bool.false_or] at hsx
  by_cases hb2 : st + 1 < xM.length
  ·rw [decide_eq_true hb2] at hsx
   simp only [Bool.true_or,Bool.not_true] at hsx
   subst hsx
   rw [Bool.false_and] at hD
   subst hD
   repeat refine aa rfl ?_
   refine bO rfl rfl rfl rfl rfl rfl rfl hx rfl ?_
   repeat refine aa rfl ?_
   refine fU rfl rfl rfl ?_ ?_<;>intro h
   ·exfalso
    have := of_decide_eq_true h
    simp only [lS] at this
    omega
   ·clear h
    repeat refine aa rfl ?_
    rw [hws]
    repeat refine aa rfl ?_
    refine fU rfl rfl rfl ?_ ?_<;>intro h
    ·clear h
     repeat refine aa rfl ?_
     exact bm rfl rfl rfl
    ·exfalso
     have := of_decide_eq_false h
     simp only [lM] at this
     omega
  rw [decide_eq_false hb2,Bool.false_or] at hsx
  cases o1 with
  |false =>
   simp only [Bool.not_false,Bool.true_or,Bool.not_true] at hsx
   subst hsx
   rw [Bool.false_and] at hD
   subst hD
   repeat refine aa rfl ?_
   refine bO rfl rfl rfl rfl rfl rfl rfl hx rfl ?_
   repeat refine aa rfl ?_
   refine fU rfl rfl rfl ?_ ?_<;>intro h
   ·exfalso
    have := of_decide_eq_true h
    simp only [lS] at this
    omega
   ·clear h
    repeat refine aa rfl ?_
    rw [hws]
    repeat refine aa rfl ?_
    refine fU rfl rfl rfl ?_ ?_<;>intro h
    ·exfalso
     have := of_decide_eq_true h
     simp only [lM] at this
     omega
    ·clear h
     repeat refine aa rfl ?_
     refine bO rfl rfl rfl rfl rfl rfl rfl hx rfl ?_
     repeat refine aa rfl ?_
     refine aY rfl rfl rfl hr rfl rfl rfl ?_
     repeat refine aa rfl ?_
     exact bm rfl rfl rfl
  |true =>
   simp only [Bool.not_true,Bool.false_or,Bool.not_not] at hsx
   subst hsx
   cases ok with
   |false =>
    rw [Bool.false_and] at hD
    subst hD
    repeat refine aa rfl ?_
    refine bO rfl rfl rfl rfl rfl rfl rfl hx rfl ?_
    repeat refine aa rfl ?_
    refine fU rfl rfl rfl ?_ ?_<;>intro h
    ·exfalso
     have := of_decide_eq_true h
     simp only [lS] at this
     omega
    ·clear h
     repeat refine aa rfl ?_
     rw [hws]
     repeat refine aa rfl ?_
     refine fU rfl rfl rfl ?_ ?_<;>intro h
     ·exfalso
      have := of_decide_eq_true h
      simp only [lM] at this
      omega
     ·clear h
      repeat refine aa rfl ?_
      refine bO rfl rfl rfl rfl rfl rfl rfl hx rfl ?_
      repeat refine aa rfl ?_
      refine aY rfl rfl rfl hr rfl rfl rfl ?_
      repeat refine aa rfl ?_
      refine aY rfl rfl rfl hr2 rfl rfl rfl ?_
      repeat refine aa rfl ?_
      exact bm rfl rfl rfl
   |true =>
    rw [Bool.true_and] at hD
    repeat refine aa rfl ?_
    refine bO rfl rfl rfl rfl rfl rfl rfl hx rfl ?_
    repeat refine aa rfl ?_
    refine fU rfl rfl rfl ?_ ?_<;>intro h
    ·exfalso
     have := of_decide_eq_true h
     simp only [lS] at this
     omega
    ·clear h
     repeat refine aa rfl ?_
     rw [hws]
     repeat refine aa rfl ?_
     refine fU rfl rfl rfl ?_ ?_<;>intro h
     ·exfalso
      have := of_decide_eq_true h
      simp only [lM] at this
      omega
     ·clear h
      repeat refine aa rfl ?_
      refine bO rfl rfl rfl rfl rfl rfl rfl hx rfl ?_
      repeat refine aa rfl ?_
      refine aY rfl rfl rfl hr rfl rfl rfl ?_
      repeat refine aa rfl ?_
      refine aY rfl rfl rfl hr2 rfl rfl rfl ?_
      repeat refine aa rfl ?_
      exact ⟨k + 1,⟨hlt,hD⟩,by omega,rfl,rfl,congrArg I hw,trivial⟩
 ·have hie : k = l.length := by have := of_decide_eq_false h;omega
  clear h
  rw [hie,List.drop_length,List.all_nil] at hD
  subst hD
  repeat refine aa rfl ?_
  exact bm rfl rfl rfl
def eu (b : BR) : Bool := AM b.l 10 4 && oP b.a 3
theorem wg (b : BR) (hll : x8 b.l) : Ret Tryz.prog .shared 30 [.agg (eB b)] (.bool (eu b)) := by
 have h1 := rq b.l hll 10 4 (by decide) (by decide)
 have h2 := fL b.a 3 (by decide)
 rw [eu]
 generalize AM b.l 10 4 = x1 at *
 generalize oP b.a 3 = x2 at *
 obtain ⟨w,a,l⟩ := b
 simp only at *
 cases x1
 ·rw [Bool.false_and]
  refine Ret.of_pwp layOk mixed Go.Proofs.Tryz.func30 rfl (by decide) rfl rfl ?_
  repeat refine aa rfl ?_
  refine aY rfl rfl rfl h1 rfl rfl rfl ?_
  repeat refine aa rfl ?_
  exact bm rfl rfl rfl
 ·rw [Bool.true_and]
  refine Ret.of_pwp layOk mixed Go.Proofs.Tryz.func30 rfl (by decide) rfl rfl ?_
  repeat refine aa rfl ?_
  refine aY rfl rfl rfl h1 rfl rfl rfl ?_
  repeat refine aa rfl ?_
  refine aY rfl rfl rfl h2 rfl rfl rfl ?_
  repeat refine aa rfl ?_
  exact bm rfl rfl rfl
theorem rO {l : List SR} {z t : Rat} {i : Nat} (hi : i < l.length) : (FL l z t)[i]? = some (ofQ (fI l z t i)) := by
 rw [FL,List.getElem?_map,bi (d := dS) hi];rfl
def BG (F : List RR) (n : Nat) : Prop := ∀ x ∈ F,x.le n
theorem A1 {l : List SR} (hl : fW l) (hf : mu l) {z t : Rat} {n m : Nat} (hz : HQ z n) (ht : HQ t m) : BG (FL l z t) (8 * (n + m + 60) + 4) := by
 intro x hx
 obtain ⟨s,hs,rfl⟩ := List.mem_map.1 hx
 exact eO (r6 (hl.1 s hs) (hf.2 s hs) hz ht).ok
open Go.Proofs Go.RowKit
theorem Ghost.takeD {s : St} {k g t n sz : Nat} {T : TypeId} {rows : List (List PV)} (ho : s.own k = (g,some ⟨T,sz,rows,1⟩)) (hr : s.reg t = .als k g 0 n) (hn : n = rows.length) :
  Ghost s ((s.setOwn k (g + 1) none).putR t (.sl rows)) := by
 intro C a w hX ⟨γ,h⟩
 subst hn
 obtain ⟨h1,hle,_⟩ := h.drop hX ho
 refine ⟨γ,h1.defers,h1.size,fun r => ?_,h1.sites,h1.inj,h1.base,h1.below,h1.top,h1.kept⟩
 show Rep _ (bif Nat.beq r t then _ else (s.setOwn k (g + 1) none).reg r) _
 by_cases hrt : r = t
 ·subst hrt
  have hp := h.regs r
  rw [hr] at hp
  simp only [Nat.beq_refl,cond_true]
  refine .d ?_
  rcases h.als_at hp ho with ⟨q1,_,q3,q4⟩ | ⟨b,cap,cur,q1,q2,q3,q4,q5,q6,q7⟩
  ·have : rows = [] := (h.sites k _ (by rw [ho])).emp q1
   rw [this,q4]
   exact .sl0 _ _
  ·obtain ⟨cur',g1,g2,g3,g4,g5⟩ := h.site_at ho q1 (h.cells_sz ho q1 q3 q6)
   have hb : (ae C γ (s.setOwn k (g + 1) none) w).ok b := by
    have hbase := h.base k _ b (by rw [ho]) q1
    refine ⟨hbase.2,fun hx => ?_,fun k' c' hc' hb' => ?_⟩
    ·have := hX b hx;omega
    ·by_cases hk' : k' = k
     ·subst hk';rw [ag] at hc';cases hc'
     ·rw [aq hk'] at hc'
      exact hk' (h.inj k' k c' _ b hc' (by rw [ho]) hb' q1)
   rw [q2]
   simp only [Nat.zero_mul]
   refine .sl rows b 0 cap sz (fun i j => cur'.getD (i * sz + j) undef) hb g2 q4 g4 (fun i j row pv e1 e2 => ?_) (fun i j row pv e1 e2 => ?_)
   ·obtain ⟨u,f1,f2,_⟩ := g5 i j row pv e1 e2
    have g1 : w.heap[b]? = some (.cells cur' T (0,0)) := g1
    show w.cell? _ = _ ∧ _
    rw [aN g1,Nat.zero_add,f1]
    simp [f1,f2]
   ·obtain ⟨u,f1,_,f3⟩ := g5 i j row pv e1 e2
    have hu : cur'.getD (i * sz + j) undef = u := by simp [f1]
    simp only [hu]
    exact hle.drep f3
 ·rw [aR hrt];exact h1.regs r
def rM (l : List Int) : List RR := l.map fun z : Int => ofQ (z : Rat)
set_option maxRecDepth 20000 in
theorem nN (l : List Int) (hl : l.length ≤ 1000000) (hz : ∀ z ∈ l,i64 z) : Ret Tryz.prog .shared 74 [.sl (l.map eN)] (.sl ((rM l).map eR)) := by
 have hml : (l.map eN).length = l.length := by simp
 refine Ret.of_pwp layOk mixed Go.Proofs.Tryz.func74 rfl (by decide) rfl rfl ?_
 ((repeat (first | refine aS ?_ | refine b5 ?_ | refine bY ?_ | refine bX ?_));refine aX ?_)
 refine h_ rfl trivial ?_
 ((repeat (first | refine aS ?_ | refine b5 ?_ | refine bY ?_ | refine bX ?_));refine aX ?_)
 (first | refine ax (eW 26 4 1 rfl rfl ?_) | refine ax (eT 26 4 1 rfl rfl ?_))
 repeat refine aa rfl ?_
 refine ao (fun k => k ≤ l.length) (fun k => [(0,.sl (l.map eN)),(3,.als 3 (k + 1) 0 ((rM (l.take k)).map eR).length),(4,I (k : Nat))]) (fun k => [(3,k + 1,⟨26,4,(rM (l.take k)).map eR,1⟩)]) (fun k => l.length - k) 0 (Nat.zero_le _) ⟨rfl,rfl,rfl,rfl,trivial⟩ ?_
 intro k s hk
 repeat refine aa rfl ?_
 refine ab rfl ?_ ?_<;>intro h
 ·have hlt : k < l.length := by have := of_decide_eq_true h;omega
  clear h
  obtain ⟨x,hx⟩ := aH hlt
  have hxr := kZ x (hz x (List.mem_of_getElem? hx))
  have hw := jx k
  have hwl : (rM (l.take k)).length = k := by rw [rM,List.length_map,List.length_take];omega
  have hrows : (rM (l.take (k + 1))).map eR = (rM (l.take k)).map eR ++ [eR (ofQ (x : Rat))] := by rw [cU hx,rM,List.map_append,List.map_append];rfl
  repeat refine aa rfl ?_
  refine bO rfl rfl rfl rfl rfl rfl rfl hx rfl ?_
  repeat refine aa rfl ?_
  refine ap rfl rfl rfl hxr rfl rfl ?_
  repeat refine aa rfl ?_
  refine ax (br 1 rfl rfl rfl rfl rfl rfl rfl rfl rfl rfl rfl (by repeat' constructor) rfl ?_)
  repeat refine aa rfl ?_
  refine ax (bP 1 rfl rfl rfl rfl rfl rfl rfl rfl rfl rfl rfl (by repeat' constructor) (by intro row hr;first | (simp at hr;subst hr;rfl) | simp at hr) rfl rfl (by simp;omega) (by simp;omega) ?_)
  repeat refine aa rfl ?_
  refine ⟨k + 1,hlt,by omega,rfl,?_,congrArg I hw,?_,trivial⟩
  ·rw [hrows];rfl
  ·rw [hrows];rfl
 ·have hge : k = l.length := by have := of_decide_eq_false h;omega
  subst hge
  clear h
  rw [List.take_length]
  repeat refine aa rfl ?_
  exact fc rfl rfl rfl ⟨rfl,rfl,rfl⟩ rfl
theorem qp (x : Int) : WeakL ([I x] ++ zN ++ [.sl [[I 0]],.sl ((rM [2]).map eR)]) (eS (dh x)) := WeakL.append (WeakL.append (WeakL.refl _) eJ) (WeakL.refl _)
theorem wD (x : Int) : WeakL ([I x] ++ zN ++ [.sl [[I 0],[I 10]],.sl ((rM [5,0]).map eR)]) (eS (iV x)) := WeakL.append (WeakL.append (WeakL.refl _) eJ) (WeakL.refl _)
theorem n6 : ∀ z ∈ [(0 : Int),1,2,5,10,25,30,40,75,80,100],i64 z := by
 intro z hz
 simp at hz
 rcases hz with rfl | rfl | rfl | rfl | rfl | rfl | rfl | rfl | rfl | rfl | rfl <;> exact ⟨by decide,by decide⟩
theorem mb (x : Int) : Ret Tryz.prog .shared 72 [I x] (.agg (eS (dh x))) := by
 have h1 := nN [2] (by simp) (fun z hz => n6 z (by simp at hz;subst hz;simp))
 refine Ret.weak (r' := .agg ([I x] ++ zN ++ [.sl [[I 0]],.sl ((rM [2]).map eR)])) ?_ (WeakL.refl _) (qp x).agg
 generalize (rM [2]).map eR = W at *
 refine Ret.of_pwp layOk mixed Go.Proofs.Tryz.func72 rfl (by decide) rfl rfl ?_
 repeat refine aa rfl ?_
 refine ax (br 0 rfl rfl rfl rfl rfl rfl rfl rfl rfl rfl rfl (by repeat' constructor) rfl ?_)
 repeat refine aa rfl ?_
 refine bp rfl rfl (dg rfl rfl rfl rfl rfl rfl rfl rfl rfl rfl (by repeat' constructor) rfl) ?_
 repeat refine aa rfl ?_
 refine ap rfl rfl rfl h1 rfl rfl ?_
 repeat refine aa rfl ?_
 exact aK rfl rfl rfl
theorem sq (x : Int) : Ret Tryz.prog .shared 73 [I x] (.agg (eS (iV x))) := by
 have h1 := nN [5,0] (by simp) (fun z hz => n6 z (by simp at hz;rcases hz with rfl | rfl <;> simp))
 refine Ret.weak (r' := .agg ([I x] ++ zN ++ [.sl [[I 0],[I 10]],.sl ((rM [5,0]).map eR)])) ?_ (WeakL.refl _) (wD x).agg
 generalize (rM [5,0]).map eR = W at *
 refine Ret.of_pwp layOk mixed Go.Proofs.Tryz.func73 rfl (by decide) rfl rfl ?_
 repeat refine aa rfl ?_
 refine ax (br 0 rfl rfl rfl rfl rfl rfl rfl rfl rfl rfl rfl (by repeat' constructor) rfl ?_)
 repeat refine aa rfl ?_
 refine bp rfl rfl (dg rfl rfl rfl rfl rfl rfl rfl rfl rfl rfl (by repeat' constructor) rfl) ?_
 repeat refine aa rfl ?_
 refine ap rfl rfl rfl h1 rfl rfl ?_
 repeat refine aa rfl ?_
 exact aK rfl rfl rfl
theorem BA : ofQ (-1 / 10) = ⟨bL (-1),bL 10⟩ := by
 rw [kC]
 have h1 : (-1 / 10 : Rat).num = -1 := by decide +kernel
 have h2 : (-1 / 10 : Rat).den = 10 := by decide +kernel
 rw [h1,h2];rfl
set_option maxRecDepth 20000 in
theorem An : Ret Tryz.prog .shared 75 [I (-1),I 10] (.agg (eR (ofQ (-1 / 10)))) := by
 have h1 := nO (-1) ⟨by decide,by decide⟩
 have h2 := nO 10 ⟨by decide,by decide⟩
 rw [BA]
 generalize bL (-1) = X at *
 generalize bL 10 = Y at *
 refine Ret.of_pwp layOk mixed Go.Proofs.Tryz.func75 rfl (by decide) rfl rfl ?_
 repeat refine aa rfl ?_
 refine ao (fun q : Nat × Nat => q.1 ≤ 10 ∧ q.2 ≤ 10 ∧ Nat.gcd q.1 q.2 = 1) (fun q => [(0,I (-1)),(1,I 10),(4,.ptr 4 1 0 0),(5,I (q.1 : Nat)),(6,I (q.2 : Nat))]) (fun _ => [(4,1,⟨26,4,[zN],2⟩)]) (fun q => q.2) (1,10) ⟨by decide,by decide,by decide⟩ ⟨rfl,rfl,rfl,rfl,rfl,rfl,trivial⟩ ?_
 rintro ⟨x,y⟩ s ⟨hx,hy,hg⟩
 simp only at hx hy hg
 dsimp only
 repeat refine aa rfl ?_
 refine ab rfl ?_ ?_<;>intro h
 ·have hy0 : 0 < y := by have := of_decide_eq_true h;omega
  clear h
  have hm := Nat.mod_lt x hy0
  repeat refine aa rfl ?_
  refine bM [] [] (by decide +kernel) ?_
  repeat refine aa rfl ?_
  refine bp rfl rfl (QOp.v rfl (show ¬ ((y : Nat) : Int) = 0 by omega)) ?_
  rw [jt]
  repeat refine aa rfl ?_
  exact ⟨(y,x % y),⟨hy,by simp only;omega,by simp only;rw [Nat.gcd_comm,← Nat.gcd_rec,Nat.gcd_comm];exact hg⟩,hm,rfl,rfl,rfl,rfl,rfl,rfl,trivial⟩
 ·have hy0 : y = 0 := by have := of_decide_eq_false h;omega
  subst hy0
  clear h
  rw [Nat.gcd_zero_right] at hg
  subst hg
  repeat refine aa rfl ?_
  refine ah 9 [25,26,27,28,29,30,31,32,33] (by decide +kernel) ?_
  repeat refine aa rfl ?_
  have q1 : IntKind.i64.wrap (Int.tdiv (-1) ((1 : Nat) : Int)) = -1 := by decide
  have q2 : IntKind.i64.wrap (Int.tdiv 10 ((1 : Nat) : Int)) = 10 := by decide
  refine bp rfl rfl (QOp.v rfl (show ¬ ((1 : Nat) : Int) = 0 by decide)) ?_
  rw [q1]
  repeat refine aa rfl ?_
  refine ap rfl rfl rfl h1 rfl rfl ?_
  repeat refine aa rfl ?_
  refine bp rfl rfl (QOp.v rfl (show ¬ ((1 : Nat) : Int) = 0 by decide)) ?_
  rw [q2]
  repeat refine aa rfl ?_
  refine ap rfl rfl rfl h2 rfl rfl ?_
  repeat refine aa rfl ?_
  exact aK rfl rfl rfl
theorem nM (z t : Rat) : (bd b1).F z t = (0 + if z + t * 0 < 0 then 0 else 2 * (z + t * 0)) + if z + t * 100 < 0 then 0 else 2 * (z + t * 100) := by
 have e : (bd b1).F z t = (0 + fQ (dh 0) z t) + fQ (dh 100) z t := rfl
 rw [e,qo,qo,show ((0 : Int) : Rat) = 0 from rfl,show ((100 : Int) : Rat) = 100 from rfl]
theorem Ah (z t : Rat) : (bd b1).G z t = (if z + t * 100 < 0 then 0 else 2 * (z + t * 100)) * 100 := by
 have e : (bd b1).G z t = (0 + fQ (dh 0) z t * ((0 : Int) : Rat)) + fQ (dh 100) z t * ((100 : Int) : Rat) := rfl
 rw [e,qo,qo,show ((0 : Int) : Rat) = 0 from rfl,show ((100 : Int) : Rat) = 100 from rfl]
 grind
theorem uY : (bd b1).w = 40 := rfl
theorem Af : (bd b1).A = 25 := by
 show (ofQ ((25 : Int) : Rat)).val = 25
 rw [ofQ_val];rfl
theorem Ag {z t : Rat} (h : (bd b1).Least z t) : (bd b1).E t = (if z + t * 100 < 0 then 0 else 2 * (z + t * 100)) * 100 - 40 * 25 := by
 rw [Bd.E,Bd.sg_eq h,Bd.e,Ah,uY,Af]
theorem kW {z t : Rat} (h1 : (bd b1).F z t = 40) (h2 : ∀ z',z' < z → (bd b1).F z' t < 40) : (bd b1).Least z t := ⟨h1,h2⟩
theorem zJ : (bd b1).Least 10 0 := kW (by rw [nM];grind) (fun z' h => by rw [nM];grind)
theorem Be : (bd b1).Least 20 (-1) := kW (by rw [nM];grind) (fun z' h => by rw [nM];grind)
theorem Bf : (bd b1).Least (-80) 1 := kW (by rw [nM];grind) (fun z' h => by rw [nM];grind)
theorem kY {x : Int} {z t : Rat} (h : 0 ≤ z + t * (x : Rat)) : j_ (dh x).k.s (yQ (dh x) z t) 1 = 1 := by
 rw [j_,if_pos]
 show ((0 : Int) : Rat) ≤ RR.zero.val + (z + t * (x : Rat))
 rw [RR.zero_val,show ((0 : Int) : Rat) = 0 from rfl]
 grind
theorem td {x : Int} {z t : Rat} (h : 0 < z + t * (x : Rat)) : oO (dh x).k.s (yQ (dh x) z t) 1 = 1 := by
 rw [oO,if_pos]
 show ((0 : Int) : Rat) < RR.zero.val + (z + t * (x : Rat))
 rw [RR.zero_val,show ((0 : Int) : Rat) = 0 from rfl]
 grind
theorem sK (x : Int) : aQ (dh x).k.m 1 = 2 := by
 rw [aQ]
 show (ofQ ((2 : Int) : Rat)).val = 2
 rw [ofQ_val];rfl
theorem ta {i : Nat} (hi : i < 2) : (bd b1).k ((bd b1).pR 10 0) i = 2 := by
 rcases i with _ | _ | i
 ·show aQ (dh 0).k.m (j_ (dh 0).k.s (yQ (dh 0) 10 0) 1) = 2
  rw [kY (by grind),sK]
 ·show aQ (dh 100).k.m (j_ (dh 100).k.s (yQ (dh 100) 10 0) 1) = 2
  rw [kY (by grind),sK]
 ·omega
theorem uW : (bd b1).guess 10 0 = some (15,-1 / 10) := by
 have kh : (bd b1).Kh ((bd b1).pR 10 0) = 4 := by
  show 0 + (bd b1).k ((bd b1).pR 10 0) 0 + (bd b1).k ((bd b1).pR 10 0) 1 = 4
  rw [ta (by decide),ta (by decide)];grind
 have kc : (bd b1).Kc ((bd b1).pR 10 0) = 200 := by
  show 0 + (bd b1).k ((bd b1).pR 10 0) 0 * ((0 : Int) : Rat) + (bd b1).k ((bd b1).pR 10 0) 1 * ((100 : Int) : Rat) = 200
  rw [ta (by decide),ta (by decide),show ((0 : Int) : Rat) = 0 from rfl,show ((100 : Int) : Rat) = 100 from rfl];grind
 have kp : (bd b1).Kp ((bd b1).pR 10 0) = 20000 := by
  show 0 + (bd b1).k ((bd b1).pR 10 0) 0 * ((0 : Int) : Rat) * ((0 : Int) : Rat) + (bd b1).k ((bd b1).pR 10 0) 1 * ((100 : Int) : Rat) * ((100 : Int) : Rat) = 20000
  rw [ta (by decide),ta (by decide),show ((0 : Int) : Rat) = 0 from rfl,show ((100 : Int) : Rat) = 100 from rfl];grind
 have hF : (bd b1).w - (bd b1).F 10 0 = 0 := by rw [uY,nM];grind
 have hE : -((bd b1).e 10 0) = -1000 := by rw [Bd.e,Ah,uY,Af];grind
 have hn : Bd.newt 4 200 20000 0 (-1000) = some (5,-1 / 10) := by
  rw [Bd.newt,if_neg (by decide +kernel)]
  congr 2 <;> decide +kernel
 have hb : (bd b1).F (10 + 5) (0 + -1 / 10) = (bd b1).w ∧ (bd b1).G (10 + 5) (0 + -1 / 10) = (bd b1).w * (bd b1).A := by
  rw [nM,Ah,uY,Af]
  constructor <;> grind
 rw [Bd.guess,Bd.tryP,kh,kc,kp,hF,hE,hn]
 dsimp only
 rw [if_pos hb]
 simp only [Option.some.injEq,Prod.mk.injEq]
 constructor <;> grind
theorem Bb : (bd b1).eqQ 1 = some (15,-1 / 10) := by
 have em : (bd b1).E (-1) = -1000 := by rw [Ag Be];grind
 have ep : (bd b1).E 1 = 3000 := by rw [Ag Bf];grind
 have e0 : (bd b1).E 0 = 1000 := by rw [Ag zJ];grind
 have d1 : (bd b1).dbl (-1) 1 1 = some 1 := by
  rw [Bd.dbl,if_neg]
  rw [show (-1 : Rat) * 1 = -1 by grind,em];grind
 have d2 : (bd b1).dbl 1 1 1 = some 1 := by
  rw [Bd.dbl,if_neg]
  rw [show (1 : Rat) * 1 = 1 by grind,ep];grind
 have a0 : (bd b1).at1 0 = some (15,-1 / 10) := by
  rw [Bd.at1,if_neg (by rw [e0];grind),Bd.sg_eq zJ,uW]
 rw [Bd.eqQ,d1,d2]
 dsimp only
 rw [Bd.fst3,a0]
theorem Bc (t : Rat) : ∃ z,(bd b1).w ≤ (bd b1).F z t := ⟨20,by rw [nM,uY];grind⟩
theorem oZ (t : Rat) : (km b1.l t).length ≤ 40 := by
 rw [km]
 show ((kn t (dh 0)) ++ ((kn t (dh 100)) ++ [])).length ≤ 40
 rw [kn,kn]
 simp [dh]
theorem te : bk b1.l = [0,100] := by
 rw [bk]
 have : ca (b1.l.map (·.x)) = [0,100] := List.mergeSort_of_pairwise (by decide)
 rw [this]
 decide
theorem uX {x : Int} {A B : Rat} (hx : x = 0 ∨ x = 100) (h : A + B * (x : Rat) ≠ 0) : qD 15 (-1 / 10) A B (dh x) = false := by
 have hy : 0 < (15 : Rat) + -1 / 10 * (x : Rat) := by
  rcases hx with rfl | rfl
  ·rw [show ((0 : Int) : Rat) = 0 from rfl];grind
  ·rw [show ((100 : Int) : Rat) = 100 from rfl];grind
 have hr : rV (dh x) 15 (-1 / 10) = 2 := by
  show aQ (dh x).k.m (j_ (dh x).k.s (yQ (dh x) 15 (-1 / 10)) 1) = 2
  rw [kY (by grind),sK]
 have hl : lV (dh x) 15 (-1 / 10) = 2 := by
  show aQ (dh x).k.m (oO (dh x).k.s (yQ (dh x) 15 (-1 / 10)) 1) = 2
  rw [td hy,sK]
 rw [qD,decide_eq_false]
 intro hn
 apply hn
 rw [hr,hl]
 rcases Classical.em (0 < A + B * (x : Rat)) with g | g
 ·exact .inl ⟨g,by grind⟩
 ·exact .inr ⟨by show A + B * (x : Rat) < 0;grind,by grind⟩
theorem x9 {A B : Rat} (h : A ≠ 0 ∨ A + B * 100 ≠ 0) : fT b1.l 15 (-1 / 10) A B = false := by
 show (qD 15 (-1 / 10) A B (dh 0) && (qD 15 (-1 / 10) A B (dh 100) && true)) = false
 rcases h with h | h
 ·rw [uX (.inl rfl) (by rw [show ((0 : Int) : Rat) = 0 from rfl];grind),Bool.false_and]
 ·rw [uX (x := 100) (.inr rfl) (by rw [show ((100 : Int) : Rat) = 100 from rfl];exact h),Bool.false_and,Bool.and_false]
theorem tg : cC b1 15 (-1 / 10) = false := by
 rw [cC,List.any_eq_false]
 intro d hd
 have key : ∀ A B : Int,(A ≠ 0 ∨ A + B * 100 ≠ 0) → ¬ fT b1.l 15 (-1 / 10) (ofQ (A : Rat)).val (ofQ (B : Rat)).val = true := by
  intro A B h
  rw [ofQ_val,ofQ_val,x9]
  ·decide
  ·rcases h with h | h
   ·left;exact_mod_cast h
   ·right
    have : (A : Rat) + (B : Rat) * 100 = ((A + B * 100 : Int) : Rat) := by push_cast;rfl
    rw [this];exact_mod_cast h
 rw [dH,bD,te] at hd
 simp at hd
 rcases hd with rfl | rfl | rfl | rfl | rfl | rfl
 ·exact key (-0) 1 (by decide)
 ·exact key (-100) 1 (by decide)
 ·exact key 0 (-1) (by decide)
 ·exact key 100 (-1) (by decide)
 ·exact key 1 0 (by decide)
 ·exact key (-1) 0 (by decide)
theorem Aj : Ret Tryz.prog .shared 41 [.agg (eB b1)] (.tup [.agg (yr ⟨ofQ 15,ofQ (-1 / 10)⟩ [ofQ 30,ofQ 10]),.agg (zN ++ zN),I 0]) := by
 have hn := ti kX (Ai.2 ⟨rfl,rfl⟩)
 have h93 := eG b1 kX
 rw [dB,if_neg (by rw [hn.1];decide),List.find?_eq_none.2 (fun r hr => by rw [hn.2 r hr];decide)] at h93
 have h120 := mN b1 kX oZ Bc (N := 1) (by decide) Bb
 have va : Va ⟨ofQ 15,ofQ (-1 / 10)⟩ 15 (-1 / 10) 4 8 := ⟨Vq.ofQ (h := ⟨po 15 ⟨by decide,by decide⟩⟩),Vq.ofQ (h := @HQ.div _ _ 4 4 (@HQ.neg _ _ HQ.one) ⟨po 10 ⟨by decide,by decide⟩⟩)⟩
 have h121 := mU b1 kX ⟨ofQ 15,ofQ (-1 / 10)⟩ (ha := va) (by decide)
 rw [tg] at h121
 have h23 := fx b1.l kX.lim.l kX.chkL ⟨ofQ 15,ofQ (-1 / 10)⟩ (ha := va) (by decide)
 rw [s_] at h23
 exact nw b1 kX.lim uV h93 _ _ h120 h121 h23
theorem Am : Ret Tryz.prog .shared 41 [.agg (eB b2)] (.tup [.agg zS,.agg (eA (iW 0)),I 13]) := by
 have h93 := eG b2 zK
 rw [qG] at h93
 exact iT b2 zK.lim uZ _ 13 (by decide) h93
set_option maxRecDepth 20000 in
theorem s9 : Ret Tryz.prog .shared 15 [] (.bool true) := by
 have w25 := kZ 25 ⟨by decide,by decide⟩
 have w75 := kZ 75 ⟨by decide,by decide⟩
 have w0 := kZ 0 ⟨by decide,by decide⟩
 have w1 := kZ 1 ⟨by decide,by decide⟩
 have s0 := mb 0
 have s1 := mb 100
 have p0 := sq 0
 have p1 := sq 100
 have hs := Aj
 have hp := Am
 have hws := nN [30,10] (by simp) (fun z hz => n6 z (by simp at hz;rcases hz with rfl | rfl <;> simp))
 have hq := An
 have e1 := fK [ofQ 30,ofQ 10] (by simp) (fun x hx => by
  simp at hx
  rcases hx with rfl | rfl
  ·have := (vI (z := 30) ⟨by decide,by decide⟩).sz
   exact ⟨Nat.le_trans this.1 (by decide),Nat.le_trans this.2 (by decide)⟩
  ·have := (vI (z := 10) ⟨by decide,by decide⟩).sz
   exact ⟨Nat.le_trans this.1 (by decide),Nat.le_trans this.2 (by decide)⟩)
 have e2 := gw (p := -1 / 10) (n := 8) (@HQ.div _ _ 4 4 (@HQ.neg _ _ HQ.one) ⟨po 10 ⟨by decide,by decide⟩⟩) (by decide)
 have e3 := gw (p := ((0 : Int) : Rat)) ⟨po 0 ⟨by decide,by decide⟩⟩ (by decide)
 have e4 := gw (p := ((1 : Int) : Rat)) ⟨po 1 ⟨by decide,by decide⟩⟩ (by decide)
 have hb1 : eB b1 = I 40 :: (eR (ofQ ((25 : Int) : Rat)) ++ [.sl [eS (dh 0),eS (dh 100)]]) := rfl
 have hb2 : eB b2 = I 80 :: (eR (ofQ ((75 : Int) : Rat)) ++ [.sl [eS (iV 0),eS (iV 100)]]) := rfl
 rw [hb1] at hs
 rw [hb2] at hp
 rw [show rM [30,10] = [ofQ 30,ofQ 10] from rfl] at hws
 rw [show iW 0 = ⟨ofQ ((0 : Int) : Rat),ofQ ((1 : Int) : Rat)⟩ from rfl] at hp
 have hzA : eA zA = eR RR.zero ++ eR RR.zero := rfl
 clear hb1 hb2
 generalize ofQ ((25 : Int) : Rat) = W25 at *
 generalize ofQ ((75 : Int) : Rat) = W75 at *
 generalize ofQ ((0 : Int) : Rat) = W0 at *
 generalize ofQ ((1 : Int) : Rat) = W1 at *
 generalize ofQ (-1 / 10 : Rat) = WT at *
 generalize ofQ (15 : Rat) = W15 at *
 generalize [ofQ (30 : Rat),ofQ (10 : Rat)] = WF at *
 refine Ret.of_pwp layOk mixed Go.Proofs.Tryz.func15 rfl (by decide) rfl rfl ?_
 ((repeat ((fail_if_success (with_reducible refine aM 1 ?_));refine cF rfl ?_));refine ay 4 ?_)
 refine ap rfl rfl rfl w25 rfl rfl ?_
 refine ap rfl rfl rfl s0 rfl rfl ?_
 refine ap rfl rfl rfl s1 rfl rfl ?_
 refine ax (br 1 rfl rfl rfl rfl rfl rfl rfl rfl rfl rfl rfl (by repeat' constructor) rfl ?_)
 refine aS ?_
 refine aI rfl (cE (Ghost.takeD (k := 11) (t := 11) rfl rfl rfl) (yJ rfl ⟨trivial,trivial,trivial⟩ ?_))
 refine aD ?_
 refine ap rfl rfl rfl hs rfl rfl ?_
 ((repeat ((fail_if_success (with_reducible refine aM 2 ?_));refine cF rfl ?_));refine ay 4 ?_)
 refine ap rfl rfl rfl w75 rfl rfl ?_
 refine ap rfl rfl rfl p0 rfl rfl ?_
 refine ap rfl rfl rfl p1 rfl rfl ?_
 refine ax (br 1 rfl rfl rfl rfl rfl rfl rfl rfl rfl rfl rfl (by repeat' constructor) rfl ?_)
 refine aS ?_
 refine aI rfl (cE (Ghost.takeD (k := 21) (t := 21) rfl rfl rfl) (yJ rfl ⟨trivial,trivial,trivial⟩ ?_))
 refine aD ?_
 refine ap rfl rfl rfl hp rfl rfl ?_
 repeat refine aa rfl ?_
 refine ah 32 [27,28,29,30,31,32,33,34,35,36,37,38,39,40,41,42,43,44,45,46,47,48,49,50,51,52,53,54,55,56,57,58] (by decide +kernel) ?_
 repeat refine aa rfl ?_
 refine bp rfl rfl (dg rfl rfl rfl rfl rfl rfl rfl rfl rfl rfl (by repeat' constructor) rfl) ?_
 repeat refine aa rfl ?_
 refine ap rfl rfl rfl hws rfl rfl ?_
 repeat refine aa rfl ?_
 refine aY rfl rfl rfl e1 rfl rfl rfl ?_
 repeat refine aa rfl ?_
 refine ap rfl rfl rfl hq rfl rfl ?_
 repeat refine aa rfl ?_
 refine aY rfl rfl rfl e2 rfl rfl rfl ?_
 repeat refine aa rfl ?_
 refine ap rfl rfl rfl w0 rfl rfl ?_
 repeat refine aa rfl ?_
 refine aY rfl rfl rfl e3 rfl rfl rfl ?_
 repeat refine aa rfl ?_
 refine ap rfl rfl rfl w1 rfl rfl ?_
 repeat refine aa rfl ?_
 refine aY rfl rfl rfl e4 rfl rfl rfl ?_
 repeat refine aa rfl ?_
 exact bm rfl rfl rfl
end Go.Pv
namespace Go.Pv
open Go.RowKit Go.ChangeShapes Go.WideShapes Go.ChangeAt
section
variable {H : Type} {enc : TypeId × Value → H} {P : Program} {L : Lay} {w : World} {sp : Nat → Bool} {held : Bool}
def argW (L : Lay) (T : TypeId) (c : PV) : Prop := match L T with
 |some r => bif r.sh.agg then ∃ cs,c = .agg cs ∧ ju L 12 T cs else ju L 12 T [c]
 |none => False
theorem uU (hL : eZ P L) {base : Nat} {T : TypeId} {v : Value} {d : DataW H} {ps : List MemPlace} (hp : d6 L 12 T = true) (h : DataW.Trod enc P w 0 sp held T v d ps) (hok : Value.okWide P w .any base T v) : ∃ c,DRep w (fun b => b < w.heap.size) c v ∧ argW L T c := by
 obtain ⟨fuel,h⟩ := h
 obtain ⟨pvs,h1,h2⟩ := mf hL 12 T _ fuel _ hp h
 have hp' := hp
 simp only [d6] at hp
 split at hp
 ·rename_i r hr
  have hfit := hL T r hr
  have leaf : r.sh.agg = false → (∃ c,pvs = [c]) → (v.cells.toList.length = 1 → v.cells = #[v]) → ∃ c,DRep w (fun b => b < w.heap.size) c v ∧ argW L T c := by
   rintro ha ⟨c,rfl⟩ hv
   have hc := hv (by rw [← h1.1];rfl)
   have hd := h1.2 0 c v rfl (by rw [hc];rfl)
   refine ⟨c,hd.1,?_⟩
   unfold argW
   rw [hr]
   simp only [ha,cond_false]
   exact h2
  have nagg : (∀ cs,v ≠ .agg cs) → v.cells = #[v] := by
   intro h
   cases v <;> first | rfl | exact absurd rfl (h _)
  have hty : ∃ r',L T = some r' ∧ _ := h2
  obtain ⟨r',hr',hty⟩ := hty
  rw [hr] at hr'
  have hr' := Option.some.inj hr'
  subst hr'
  split at hp
  ·rename_i hs
   rw [hs] at hty
   obtain ⟨b,rfl⟩ := hty
   obtain ⟨b',rfl⟩ : ∃ b',v = .bool b' := by
    have := okWide_bool (mm hfit hs) hok;exact this
   exact leaf (by rw [hs];rfl) ⟨_,rfl⟩ (fun _ => rfl)
  ·rename_i k hs
   rw [hs] at hty
   obtain ⟨m,rfl,_⟩ := hty
   obtain ⟨m',rfl⟩ := okWide_int (jw hfit hs) hok
   exact leaf (by rw [hs];rfl) ⟨_,rfl⟩ (fun _ => rfl)
  ·rename_i hs
   rw [hs] at hty
   obtain ⟨s,rfl,_⟩ := hty
   obtain ⟨s',rfl⟩ := okWide_string (gZ hfit hs) hok
   exact leaf (by rw [hs];rfl) ⟨_,rfl⟩ (fun _ => rfl)
  ·rename_i e hs
   rw [hs] at hty
   obtain ⟨rows,rfl,_⟩ := hty
   obtain ⟨a,l,c,rfl⟩ := okWide_slice (ef hfit hs) hok
   exact leaf (by rw [hs];rfl) ⟨_,rfl⟩ (fun _ => rfl)
  ·rename_i fs hs
   obtain ⟨fs',hu,_⟩ := mn hfit hs
   obtain ⟨cs,rfl,_⟩ := okWide_struct hu hok
   refine ⟨.agg pvs,?_,?_⟩
   ·have := DRep.agg (w := w) (ok := fun b => b < w.heap.size) pvs cs.toList h1.1 (fun i c v e1 e2 => (h1.2 i c v e1 e2).1)
    simpa using this
   ·unfold argW
    rw [hr]
    simp only [hs,Sh.agg,cond_true]
    exact ⟨pvs,rfl,h2⟩
  ·cases hp
 ·cases hp
theorem mD (hL : eZ P L) {base : Nat} : ∀ (ts : List TypeId) (vs : List Value) (ds : List (DataW H)) (ps : List MemPlace),ts.all (d6 L 12) = true → DataW.TrodAll enc P w 0 sp held ts vs ds ps →
  (∀ (j : Nat) t v,ts[j]? = some t → vs[j]? = some v → Value.okWide P w .any base t v) →
  ∃ pargs : List PV,pargs.length = vs.length ∧ ts.length = vs.length ∧ ds.length = vs.length ∧ (∀ (i : Nat) (c : PV) (v : Value),pargs[i]? = some c → vs[i]? = some v → DRep w (fun b => b < w.heap.size) c v) ∧ ∀ (i : Nat) t c,ts[i]? = some t → pargs[i]? = some c → argW L t c
 |[],vs,ds,ps,_,h,_ => by
  obtain ⟨rfl,rfl,_⟩ := trodAll_nil h
  exact ⟨[],rfl,rfl,rfl,fun i c v e => by simp at e,fun i t c e => by simp at e⟩
 |t :: ts,vs,ds,ps,hp,h,hok => by
  obtain ⟨v,vs',d,ds',p,q,rfl,rfl,rfl,h1,h2⟩ := trodAll_cons h
  simp only [List.all_cons,Bool.and_eq_true] at hp
  obtain ⟨c,g1,g2⟩ := uU hL hp.1 h1 (hok 0 t v rfl rfl)
  obtain ⟨pargs,e1,e2,e3,e4,e5⟩ := mD hL ts vs' ds' q hp.2 h2 (fun j t v a b => hok (j + 1) t v (by simpa using a) (by simpa using b))
  refine ⟨c :: pargs,by simp [e1],by simp [e2],by simp [e3],fun i c' v' a b => ?_,fun i t' c' a b => ?_⟩
  ·cases i with
   |zero => simp at a b;subst a;subst b;exact g1
   |succ i => exact e4 i c' v' (by simpa using a) (by simpa using b)
  ·cases i with
   |zero => simp at a b;subst a;subst b;exact g2
   |succ i => exact e5 i t' c' (by simpa using a) (by simpa using b)
theorem law_stepW [Globs] (hL : eZ P L) (hl : laidOutB P = true) {f : FuncId} {fn : Func} {s : ChangeSpec} {ts : List TypeId} {T : TypeId} (hvars : s.vars = []) (hts : fn.params.toList = ts) (hplain : ts.all (d6 L 12) = true)
  (hread : ts.all (fun t => P.readableRec t && decide (t < P.types.size)) = true) (hres : fn.resultTypes = #[T]) (hT : P.underlying T = some .bool)
  (hspec : ∀ ds : List (DataW H),ds.length = ts.length → (s.fn H ds).results = [.lit (.bool true)] ∧ (s.fn H ds).args = ds ∧ (s.fn H ds).vars = [])
  (law : ∀ pargs : List PV,pargs.length = ts.length → (∀ (i : Nat) t c,ts[i]? = some t → pargs[i]? = some c → argW L t c) → Ret P .shared f pargs (.bool true))
  {W : World} {base : Nat} {args : Array Value} {ds gs : List (DataW H)} {before : List MemPlace} (hval : ∀ (j : Nat) t v,fn.params[j]? = some t → args[j]? = some v → Value.okWide P W .any base t v)
  (hglob : Globs.glob W) (hW : DataW.Whole enc P fn.params.toList s.vars false W args.toList ds gs before) :
  Calls P f args W fun e W' => ∃ v,e = .returned v ∧ s.post enc P fn false true false false W args v W' := by
 have hW' := hW
 obtain ⟨p,q,hA,hV,hpq,hfz,hnd⟩ := hW
 rw [hvars] at hV
 obtain ⟨rfl,rfl⟩ := trodVars_none hV
 rw [hts] at hA
 obtain ⟨pargs,e1,e2,e3,e4,e5⟩ := mD hL (base := base) ts _ _ _ hplain hA (fun j t v a b => hval j t v (by rw [← hts] at a;simpa using a) (by simpa using b))
 have hret := law pargs (by omega) e5
 have hcall := hret.2 W (fun _ => False) args.toList hglob (fun b hb => hb.elim) (by omega) (fun i c v a b => (e4 i c v a b).weaken fun b hb => ⟨hb,fun h => h⟩)
 have hargs : args.toList.toArray = args := by simp
 rw [hargs] at hcall
 refine hcall.mono ?_
 rintro e W' ⟨v,rfl,hb,hd⟩
 refine ⟨v,rfl,?_⟩
 have hv : v = .bool true := by cases hd;rfl
 subst hv
 have hlt : ∀ x ∈ p,x.block < W.heap.size := fun x hx => by
  have := hW'.lt x (by rw [hpq];simp [hx])
  simpa using this
 obtain ⟨s1,s2,s3⟩ := hspec ds (by omega)
 have hgs : ds ++ ([] : List (DataW H)) = ds := List.append_nil ds
 refine ⟨ds,[],before,[],p,[],hW',?_,?_,?_,World.keptBut_mono (fun x hx => hx.elim) (hb.frame (fun _ => False)),fun h => by cases h⟩
 ·rw [hgs,s1,hres]
  exact trodAll_mk1 (shut_bool hT true)
 ·rw [hgs,s2,hts]
  exact io hl hb ts _ _ _ (fun t ht => by
   have := List.all_eq_true.1 hread t ht
   simpa using this) hA hlt
 ·rw [hgs,s3,hvars]
  exact rfl
end
end Go.Pv
set_option maxHeartbeats 2000000
namespace Go.Pv
attribute [local irreducible] PWP POps PQuiet PSem au ar aj ai
open Go.Proofs
theorem fk {α : Type} {f : α → List PV} {p : α → Prop} : ∀ {rows : List (List PV)},(∀ row ∈ rows,∃ x,row = f x ∧ p x) → ∃ l : List α,rows = l.map f ∧ ∀ x ∈ l,p x
 |[],_ => ⟨[],rfl,fun x h => by cases h⟩
 |row :: rows,h => by
  obtain ⟨x,rfl,hx⟩ := h row (by simp)
  obtain ⟨l,rfl,hl⟩ := fk (rows := rows) fun r hr => h r (by simp [hr])
  exact ⟨x :: l,rfl,fun y hy => by
   rcases List.mem_cons.1 hy with rfl | hy
   ·exact hx
   ·exact hl y hy⟩
theorem wi {n : Nat} (h : n ≤ maxLen) : n ≤ 9223372036854775807 := by
 have e : maxLen = 9223372036854775807 := by decide
 omega
theorem vj {n : Nat} {cs : List PV} (h : ju lay.get (n + 2) 22 cs) : ∃ l : List UInt16,cs = [.sl (l.map eU)] := by
 obtain ⟨rows,rfl,hr⟩ := AP h rfl
 obtain ⟨l,rfl,-⟩ := fk (f := eU) (p := fun _ => True) fun row hrow => by
  obtain ⟨m,rfl,h1,h2⟩ := qz (hr row hrow) rfl
  have h1 : (0 : Int) ≤ m := h1
  have h2 : m ≤ (65535 : Int) := h2
  refine ⟨UInt16.ofNat m.toNat,?_,trivial⟩
  rw [eU,aL]
  congr 2
  omega
 exact ⟨l,rfl⟩
theorem zL {n : Nat} {cs : List PV} (h : ju lay.get (n + 3) 24 cs) : ∃ a : RI,cs = eI a := by
 obtain ⟨parts,rfl,hl,hp⟩ := mg h rfl
 match parts,hl,hp with
 |[p0,p1],_,hp =>
  obtain ⟨b,rfl⟩ := xT (hp 0 _ p0 rfl rfl) rfl
  obtain ⟨l,rfl⟩ := vj (hp 1 _ p1 rfl rfl)
  exact ⟨⟨b,l⟩,rfl⟩
theorem rY {n : Nat} {cs : List PV} (h : ju lay.get (n + 4) 26 cs) : ∃ a : RR,cs = eR a := by
 obtain ⟨parts,rfl,hl,hp⟩ := mg h rfl
 match parts,hl,hp with
 |[p0,p1],_,hp =>
  obtain ⟨a,rfl⟩ := zL (hp 0 _ p0 rfl rfl)
  obtain ⟨b,rfl⟩ := zL (hp 1 _ p1 rfl rfl)
  exact ⟨⟨a,b⟩,rfl⟩
theorem nW {n : Nat} {cs : List PV} (h : ju lay.get (n + 1) 3 cs) : ∃ z : Int,cs = eN z ∧ i64 z := by
 obtain ⟨m,rfl,h1,h2⟩ := qz h rfl
 exact ⟨m,rfl,h1,h2⟩
theorem vi {n : Nat} {cs : List PV} (h : ju lay.get (n + 2) 86 cs) : ∃ l : List Int,cs = [.sl (l.map eN)] ∧ l.length ≤ 9223372036854775807 ∧ ∀ z ∈ l,i64 z := by
 obtain ⟨rows,rfl,hlen,hr⟩ := kN h rfl
 obtain ⟨l,rfl,hz⟩ := fk (f := eN) (p := i64) fun row hrow => nW (hr row hrow)
 exact ⟨l,rfl,by rw [List.length_map] at hlen;exact wi hlen,hz⟩
theorem Ar {n : Nat} {cs : List PV} (h : ju lay.get (n + 5) 42 cs) : ∃ l : List RR,cs = [.sl (l.map eR)] ∧ l.length ≤ 9223372036854775807 := by
 obtain ⟨rows,rfl,hlen,hr⟩ := kN h rfl
 obtain ⟨l,rfl,-⟩ := fk (f := eR) (p := fun _ => True) fun row hrow => by
  obtain ⟨a,rfl⟩ := rY (hr row hrow)
  exact ⟨a,rfl,trivial⟩
 exact ⟨l,rfl,by rw [List.length_map] at hlen;exact wi hlen⟩
theorem Bj {n : Nat} {cs : List PV} (h : ju lay.get (n + 6) 120 cs) : ∃ c : CR,cs = eC c ∧ c.S.length ≤ 9223372036854775807 ∧ c.M.length ≤ 9223372036854775807 ∧ ∀ z ∈ c.S,i64 z := by
 obtain ⟨parts,rfl,hl,hp⟩ := mg h rfl
 match parts,hl,hp with
 |[p0,p1],_,hp =>
  obtain ⟨S,rfl,h1,h2⟩ := vi (hp 0 _ p0 rfl rfl)
  obtain ⟨M,rfl,h3⟩ := Ar (hp 1 _ p1 rfl rfl)
  exact ⟨⟨S,M⟩,rfl,h1,h3,h2⟩
theorem Bl {n : Nat} {cs : List PV} (h : ju lay.get (n + 7) 122 cs) : ∃ s : SR,cs = eS s ∧ (uN s ∧ s.k.S.length ≤ 9223372036854775807 ∧ s.k.M.length ≤ 9223372036854775807) := by
 obtain ⟨parts,rfl,hl,hp⟩ := mg h rfl
 match parts,hl,hp with
 |[p0,p1,p2],_,hp =>
  obtain ⟨x,rfl,hx⟩ := nW (hp 0 _ p0 rfl rfl)
  obtain ⟨c,rfl⟩ := rY (hp 1 _ p1 rfl rfl)
  obtain ⟨k,rfl,h1,h2,h3⟩ := Bj (hp 2 _ p2 rfl rfl)
  exact ⟨⟨x,c,k⟩,by simp [eS,eN],⟨hx,h3⟩,h1,h2⟩
theorem Bk {n : Nat} {cs : List PV} (h : ju lay.get (n + 8) 27 cs) : ∃ l : List SR,cs = [.sl (l.map eS)] ∧ x8 l ∧ oQ l := by
 obtain ⟨rows,rfl,hlen,hr⟩ := kN h rfl
 obtain ⟨l,rfl,hz⟩ := fk (f := eS) (p := fun s => uN s ∧ s.k.S.length ≤ 9223372036854775807 ∧ s.k.M.length ≤ 9223372036854775807) fun row hrow => Bl (hr row hrow)
 exact ⟨l,rfl,⟨by rw [List.length_map] at hlen;exact wi hlen,fun s hs => (hz s hs).2⟩,fun s hs => (hz s hs).1⟩
structure ArgB (b : BR) : Prop where
 w : i64 b.w
 len : x8 b.l
 data : oQ b.l
theorem dec_B {c : PV} (h : argW lay.get 29 c) : ∃ b : BR,c = .agg (eB b) ∧ ArgB b := by
 obtain ⟨cs,rfl,h⟩ : ∃ cs,c = .agg cs ∧ ju lay.get 12 29 cs := h
 obtain ⟨parts,rfl,hl,hp⟩ := mg h rfl
 match parts,hl,hp with
 |[p0,p1,p2],_,hp =>
  obtain ⟨w,rfl,hw⟩ := nW (hp 0 _ p0 rfl rfl)
  obtain ⟨a,rfl⟩ := rY (hp 1 _ p1 rfl rfl)
  obtain ⟨l,rfl,h1,h2⟩ := Bk (hp 2 _ p2 rfl rfl)
  exact ⟨⟨w,a,l⟩,by simp [eB,eN],hw,h1,h2⟩
theorem mV {b : BR} (hb : ArgB b) (h : eu b = true) : b.Lim ∧ (aU b = 0 → b.Ok ∧ (bd b).Sz) := by
 rw [eu,Bool.and_eq_true,jT,jp] at h
 exact ⟨⟨hb.w,h.2.mono (by decide),l5 hb.data h.1 (by decide) (by decide)⟩,fun hc => ⟨xi hb.w hb.data h.2 h.1 (by decide) (by decide) hc,xj hb.w hb.data h.2 h.1 (by decide) (by decide) hc⟩⟩
theorem pm {α β : Type} (f : α → List β) (n : Nat) : ∀ (l : List α),(∀ x ∈ l,(f x).length ≤ n) → (l.flatMap f).length ≤ l.length * n
 |[],_ => by simp
 |x :: l,h => by
  have h1 := h x (by simp)
  have h2 := pm f n l fun y hy => h y (by simp [hy])
  rw [List.flatMap_cons,List.length_append,List.length_cons,Nat.add_mul]
  omega
theorem mH {l : List SR} (h : l.length ≤ 10) (h4 : ∀ s ∈ l,s.k.S.length ≤ 4) (t : Rat) : (km l t).length ≤ 40 := by
 have h1 := pm (kn t) 4 l fun s hs => by rw [nR];exact h4 s hs
 rw [km]
 omega
theorem qW {b : BR} (h : eu b = true) (t : Rat) : (km b.l t).length ≤ 40 := by
 rw [eu,Bool.and_eq_true,jp] at h
 exact mH h.1.1 (fun s hs => (h.1.2 s hs).1) t
theorem tO {b : BR} (hb : ArgB b) (h : eu b = true) : b.Good := by
 obtain ⟨h1,h2⟩ := mV hb h
 exact ⟨h1,fun h0 => ⟨(h2 h0).1,(h2 h0).2,qW h⟩⟩
def A7 (b : BR) : Prop := ∀ z t,¬ (bd b).Bal z t
inductive Said (b : BR) : Prop
 |none (r : AR) (e : Int) (he : e = 12 ∨ e = 13) (hr : cx b r = true) (hv : Va r r.z.val r.t.val 4 4) (hn : A7 b) (h1 : cS b = ⟨zA,[],r,e⟩) (h2 : cD b = ([],e))
 |loose (z t : Rat) (hn : fX b) (hb : (bd b).Bal z t) (hz : HQ z 24000) (ht : HQ t 20000) (h1 : cS b = ⟨zA,[],zA,14⟩) (h2 : cD b = (FL b.l z t,0))
 |one (z t : Rat) (hn : fX b) (hb : (bd b).Bal z t) (hz : HQ z 24000) (ht : HQ t 20000) (hu : ∀ z' t',(bd b).Bal z' t' → z' = z ∧ t' = t) (h1 : cS b = ⟨⟨ofQ z,ofQ t⟩,FL b.l z t,zA,0⟩) (h2 : cD b = (FL b.l z t,0))
theorem x6 {b : BR} {z t z' t' : Rat} (h : ∀ i,i < (bd b).N → (bd b).f z' t' i = (bd b).f z t i) : FL b.l z' t' = FL b.l z t := by
 refine List.ext_getElem? fun i => ?_
 by_cases hi : i < b.l.length
 ·rw [rO hi,rO hi]
  exact congrArg (fun q => some (ofQ q)) (h i hi)
 ·rw [List.getElem?_eq_none (by rw [FL,List.length_map];omega),List.getElem?_eq_none (by rw [FL,List.length_map];omega)]
theorem u5 {b : BR} (hb : b.Ok) {z t z' t' : Rat} (h : (bd b).Bal z t) (h' : (bd b).Bal z' t') : FL b.l z' t' = FL b.l z t := by
 have h1 := Bd.least_energy (ej hb) h z' t'
 have h2 := Bd.least_energy (ej hb) h' z t
 exact x6 (h1.2 (by grind))
theorem bal_of_f {b : Bd} {z t z' t' : Rat} (h : b.Bal z t) (hf : ∀ i,i < b.N → b.f z' t' i = b.f z t i) : b.Bal z' t' := by
 have e1 : b.F z' t' = b.F z t := aT hf
 have e2 : b.G z' t' = b.G z t := aT fun i hi => by rw [hf i hi]
 exact ⟨e1.trans h.1,e2.trans h.2⟩
end Go.Pv
