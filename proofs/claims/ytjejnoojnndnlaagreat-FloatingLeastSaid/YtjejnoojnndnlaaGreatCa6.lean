/- Texts of one hand, gathered: FrH, FsA, FsB, FsC, FsF, FsG, FsH, FsI, FsD, PvXw, FsE, FtB, FtC, FuA. -/
import Derived.Test.YtjejnoojnndnlaaGreatCa5
set_option linter.unusedSectionVars false
set_option linter.unusedSimpArgs false
set_option linter.unusedVariables false
set_option linter.unnecessarySimpa false
set_option maxHeartbeats 2000000
namespace Go.Pv
attribute [local irreducible] PWP POps PQuiet PSem au aq aj ai
open Go.Proofs
theorem p6 (z : Int) : ofQ ((z : Rat)) = ⟨bE z,bE 1⟩ := by
 rw [ofQ,Rat.num_intCast,Rat.den_intCast];rfl
theorem kZ (q : Rat) : ofQ q = ⟨bE q.num,bE (q.den : Int)⟩ := by
 rw [ofQ,bE,bE]
 congr 2
set_option maxRecDepth 20000 in
theorem i2 (a b : RI) (ha : a.l.length ≤ 90000000) (hb : b.l.length ≤ 90000000) : Ret Tryz.prog .shared 88 [.agg (eI a),.agg (eI b)] (.agg (eR (ofQ ((a.val : Rat) / (b.den : Rat))))) := by
 have hta := dC a.l (by omega)
 have htb := dC b.l (by omega)
 have hla := bx a.l
 have hlb := bx b.l
 have hb0 := kq (l := b.l)
 have hAn := b9 a.l
 have hBn := b9 b.l
 have hAt := dr a.l
 have hBt := dr b.l
 have h1 := zG 1 (by decide) (by decide)
 by_cases h0 : nv b.l = 0
 ·have e : ofQ ((a.val : Rat) / (b.den : Rat)) = ⟨bE a.val,bE 1⟩ := by
   rw [RI.den,if_pos h0,← p6]
   congr 1
   rw [show ((1 : Int) : Rat) = 1 from rfl];grind
  rw [e]
  have hm := c9 a.neg (aG a.l) (by omega) hAt
  rw [hAn,← a.val_sgz] at hm
  have hz : aG b.l = [] := by rw [aG,h0,bc]
  rw [hz] at htb
  generalize bE a.val = X at *
  generalize bE 1 = Y at *
  generalize aG a.l = A at *
  obtain ⟨an,al⟩ := a
  obtain ⟨bn,bl⟩ := b
  simp only at *
  refine Ret.of_pwp layOk mixed Go.Proofs.Tryz.func88 rfl (by decide) rfl rfl ?_
  repeat refine aa rfl ?_
  refine ah 8 [12,13,14,15,16,17,5,6] (by decide +kernel) ?_
  repeat refine aa rfl ?_
  refine am rfl rfl rfl hta rfl rfl ?_
  repeat refine aa rfl ?_
  refine am rfl rfl rfl htb rfl rfl ?_
  repeat refine aa rfl ?_
  refine am rfl rfl rfl hm rfl rfl ?_
  repeat refine aa rfl ?_
  refine am rfl rfl rfl h1 rfl rfl ?_
  repeat refine aa rfl ?_
  exact aK rfl rfl rfl
 ·have hbp : 0 < nv b.l := Nat.pos_of_ne_zero h0
  rw [RI.den,if_neg h0,p7 a b h0]
  have hg := xD (aG a.l) (aG b.l) (by omega) (by omega) hAt hBt
  rw [hAn,hBn] at hg
  have hgp : 0 < Nat.gcd (nv a.l) (nv b.l) := Nat.gcd_pos_of_pos_right _ hbp
  have hgl : Nat.gcd (nv a.l) (nv b.l) ≤ nv b.l := Nat.gcd_le_right _ hbp
  have hgs : (ak (Nat.gcd (nv a.l) (nv b.l))).length ≤ 90000000 := by
   have := fE (L := b.l) hgl;omega
  generalize Nat.gcd (nv a.l) (nv b.l) = g at *
  have d1 := ka (aG a.l) (ak g) (by omega) (by omega) (by rw [aD];omega)
  have d2 := ka (aG b.l) (ak g) (by omega) (by omega) (by rw [aD];omega)
  rw [B8,aD,hAn] at d1
  rw [B8,aD,hBn] at d2
  have m1 := c9 (a.neg != b.neg) (ak (nv a.l / g)) (by have := fE (L := a.l) (Nat.div_le_self (nv a.l) g);omega) (bb _)
  have m2 := c9 false (ak (nv b.l / g)) (by have := fE (L := b.l) (Nat.div_le_self (nv b.l) g);omega) (bb _)
  rw [aD] at m1 m2
  have hbl : ¬ ((aG b.l).length = 0) := fun h => h0 (hb0.1 h)
  have hbm : ((aG b.l).map eD).length = (aG b.l).length := by simp
  generalize bE (c5 (a.neg != b.neg) (nv a.l / g)) = X at *
  generalize bE (c5 false (nv b.l / g)) = Y at *
  generalize ak (nv a.l / g) = A2 at *
  generalize ak (nv b.l / g) = B2 at *
  generalize ak (nv a.l % g) = A3 at *
  generalize ak (nv b.l % g) = B3 at *
  generalize ak g = G at *
  generalize aG a.l = A at *
  generalize aG b.l = B at *
  obtain ⟨an,al⟩ := a
  obtain ⟨bn,bl⟩ := b
  simp only at *
  refine Ret.of_pwp layOk mixed Go.Proofs.Tryz.func88 rfl (by decide) rfl rfl ?_
  repeat refine aa rfl ?_
  refine ah 8 [12,13,14,15,16,17,5,6] (by decide +kernel) ?_
  repeat refine aa rfl ?_
  refine am rfl rfl rfl hta rfl rfl ?_
  repeat refine aa rfl ?_
  refine am rfl rfl rfl htb rfl rfl ?_
  repeat refine aa rfl ?_
  refine ab rfl ?_ ?_<;>intro h
  ·exact absurd (by have := of_decide_eq_true h;omega) hbl
  clear h
  repeat refine aa rfl ?_
  refine am rfl rfl rfl hg rfl rfl ?_
  repeat refine aa rfl ?_
  refine am rfl rfl rfl d1 rfl rfl ?_
  repeat refine aa rfl ?_
  refine am rfl rfl rfl d2 rfl rfl ?_
  repeat refine aa rfl ?_
  refine am rfl rfl rfl m1 rfl rfl ?_
  repeat refine aa rfl ?_
  refine am rfl rfl rfl m2 rfl rfl ?_
  repeat refine aa rfl ?_
  exact aK rfl rfl rfl
theorem dV (x : RR) (hn : x.n.l.length ≤ 90000000) (hd : x.d.l.length ≤ 90000000) : Ret Tryz.prog .shared 87 [.agg (eR x)] (.agg (eR (ofQ x.val))) := by
 have h := i2 x.n x.d hn hd
 rw [show (x.n.val : Rat) / (x.d.den : Rat) = x.val from rfl] at h
 generalize ofQ x.val = X at *
 refine Ret.of_pwp layOk mixed Go.Proofs.Tryz.func87 rfl (by decide) rfl rfl ?_
 repeat refine aa rfl ?_
 refine am rfl rfl rfl h rfl rfl ?_
 repeat refine aa rfl ?_
 exact aK rfl rfl rfl
theorem fh (q : Rat) : (ofQ q).n.val = q.num := bC _
theorem dj (q : Rat) : (ofQ q).d.val = (q.den : Int) := by rw [kZ];exact bC _
theorem ux (x : RR) {p : Rat} {n : Nat} [hx : Vq x p n] (hn : n ≤ 50000000) : Ret Tryz.prog .shared 91 [.agg (eR x)] (.agg (eR (ofQ (-p)))) := by
 have h1 := hx.sz
 have hh := hx.hq
 have hl := dG hh.ok
 have hnm := dV x (by omega) (by omega)
 rw [hx.val] at hnm
 have hng := xF (ofQ p).n (by omega)
 rw [fh] at hng
 have e : ofQ (-p) = ⟨bE (-p.num),(ofQ p).d⟩ := by rw [kZ,kZ];simp
 rw [e]
 generalize bE (-p.num) = Z at *
 generalize ofQ p = P at *
 refine Ret.of_pwp layOk mixed Go.Proofs.Tryz.func91 rfl (by decide) rfl rfl ?_
 repeat refine aa rfl ?_
 refine am rfl rfl rfl hnm rfl rfl ?_
 repeat refine aa rfl ?_
 refine ah 6 [6,7,8,9,10,11] (by decide +kernel) ?_
 repeat refine aa rfl ?_
 refine am rfl rfl rfl hng rfl rfl ?_
 repeat refine aa rfl ?_
 exact aK rfl rfl rfl
theorem zE (q : Rat) : nv (ofQ q).d.l ≠ 0 := by
 have := dj q
 have h2 := (ofQ q).d.val_abs
 rw [this] at h2
 have := q.den_pos
 omega
theorem nc {a : RI} (h : nv a.l ≠ 0) : a.den = a.val := by rw [RI.den,if_neg h]
set_option maxRecDepth 20000 in
theorem nI (x y : RR) {p q : Rat} {n m : Nat} [hx : Vq x p n] [hy : Vq y q m] (hn : n ≤ 20000000) (hm : m ≤ 20000000) : Ret Tryz.prog .shared 27 [.agg (eR x),.agg (eR y)] (.agg (eR (ofQ (p * q)))) := by
 have h1 := hx.sz
 have h2 := hy.sz
 have l1 := dG hx.hq.ok
 have l2 := dG hy.hq.ok
 have n1 := dV x (by omega) (by omega)
 have n2 := dV y (by omega) (by omega)
 rw [hx.val] at n1
 rw [hy.val] at n2
 have m1 := gC (ofQ p).n (ofQ q).n (by omega) (by omega)
 have m2 := gC (ofQ p).d (ofQ q).d (by omega) (by omega)
 have k1 := b6 (ofQ p).n (ofQ q).n
 have k2 := b6 (ofQ p).d (ofQ q).d
 have m3 := i2 (bE ((ofQ p).n.val * (ofQ q).n.val)) (bE ((ofQ p).d.val * (ofQ q).d.val)) (by omega) (by omega)
 have hne : nv (bE ((ofQ p).d.val * (ofQ q).d.val)).l ≠ 0 := by
  rw [mb,aD,dj,dj,Int.natAbs_mul]
  have := Nat.mul_pos p.den_pos q.den_pos
  simp only [Int.natAbs_natCast];omega
 rw [nc hne,bC,bC,fh,fh,dj,dj,← oS,← d7,← d7] at m3
 rw [fh,fh] at m1
 rw [dj,dj] at m2
 generalize bE (p.num * q.num) = Z1 at *
 generalize bE ((p.den : Int) * (q.den : Int)) = Z2 at *
 generalize ofQ (p * q) = R at *
 generalize ofQ p = P at *
 generalize ofQ q = Q at *
 refine Ret.of_pwp layOk mixed Go.Proofs.Tryz.func27 rfl (by decide) rfl rfl ?_
 repeat refine aa rfl ?_
 refine bk 4 2 [7,8,9,10,5,6] [] (by decide +kernel) rfl ?_
 repeat refine aa rfl ?_
 refine am rfl rfl rfl n1 rfl rfl ?_
 repeat refine aa rfl ?_
 refine am rfl rfl rfl n2 rfl rfl ?_
 repeat refine aa rfl ?_
 refine ah 11 [11,12,13,14,15,16,17,18,19,20,21] (by decide +kernel) ?_
 repeat refine aa rfl ?_
 refine am rfl rfl rfl m1 rfl rfl ?_
 repeat refine aa rfl ?_
 refine am rfl rfl rfl m2 rfl rfl ?_
 repeat refine aa rfl ?_
 refine am rfl rfl rfl m3 rfl rfl ?_
 repeat refine aa rfl ?_
 exact aK rfl rfl rfl
set_option maxRecDepth 20000 in
theorem nD (x y : RR) {p q : Rat} {n m : Nat} [hx : Vq x p n] [hy : Vq y q m] (hn : n ≤ 20000000) (hm : m ≤ 20000000) : Ret Tryz.prog .shared 26 [.agg (eR x),.agg (eR y)] (.agg (eR (ofQ (p + q)))) := by
 have h1 := hx.sz
 have h2 := hy.sz
 have l1 := dG hx.hq.ok
 have l2 := dG hy.hq.ok
 have n1 := dV x (by omega) (by omega)
 have n2 := dV y (by omega) (by omega)
 rw [hx.val] at n1
 rw [hy.val] at n2
 have m1 := gC (ofQ p).n (ofQ q).d (by omega) (by omega)
 have m2 := gC (ofQ q).n (ofQ p).d (by omega) (by omega)
 have m4 := gC (ofQ p).d (ofQ q).d (by omega) (by omega)
 have k1 := b6 (ofQ p).n (ofQ q).d
 have k2 := b6 (ofQ q).n (ofQ p).d
 have k4 := b6 (ofQ p).d (ofQ q).d
 have m5 := xy (bE ((ofQ p).n.val * (ofQ q).d.val)) (bE ((ofQ q).n.val * (ofQ p).d.val)) (by omega) (by omega)
 have k5 := p_ (bE ((ofQ p).n.val * (ofQ q).d.val)) (bE ((ofQ q).n.val * (ofQ p).d.val)) (n := 50000000) (by omega) (by omega)
 rw [bC,bC] at m5 k5
 have m3 := i2 (bE ((ofQ p).n.val * (ofQ q).d.val + (ofQ q).n.val * (ofQ p).d.val)) (bE ((ofQ p).d.val * (ofQ q).d.val)) (by omega) (by omega)
 have hne : nv (bE ((ofQ p).d.val * (ofQ q).d.val)).l ≠ 0 := by
  rw [mb,aD,dj,dj,Int.natAbs_mul]
  have := Nat.mul_pos p.den_pos q.den_pos
  simp only [Int.natAbs_natCast];omega
 rw [nc hne,bC,bC,fh,fh,dj,dj,← oQ _ _ _ _ (bW p) (bW q),← d7,← d7] at m3
 rw [fh,dj] at m1
 rw [fh,dj] at m2
 rw [dj,dj] at m4
 rw [fh,fh,dj,dj] at m5
 generalize bE (p.num * (q.den : Int) + q.num * (p.den : Int)) = Z5 at *
 generalize bE (p.num * (q.den : Int)) = Z1 at *
 generalize bE (q.num * (p.den : Int)) = Z2 at *
 generalize bE ((p.den : Int) * (q.den : Int)) = Z4 at *
 generalize ofQ (p + q) = R at *
 generalize ofQ p = P at *
 generalize ofQ q = Q at *
 refine Ret.of_pwp layOk mixed Go.Proofs.Tryz.func26 rfl (by decide) rfl rfl ?_
 repeat refine aa rfl ?_
 refine bk 4 2 [7,8,9,10,5,6] [] (by decide +kernel) rfl ?_
 repeat refine aa rfl ?_
 refine am rfl rfl rfl n1 rfl rfl ?_
 repeat refine aa rfl ?_
 refine am rfl rfl rfl n2 rfl rfl ?_
 repeat refine aa rfl ?_
 refine ah 17 [11,12,13,14,15,16,17,18,19,20,21,22,23,24,25,26,27] (by decide +kernel) ?_
 repeat refine aa rfl ?_
 refine am rfl rfl rfl m1 rfl rfl ?_
 repeat refine aa rfl ?_
 refine am rfl rfl rfl m2 rfl rfl ?_
 repeat refine aa rfl ?_
 refine am rfl rfl rfl m5 rfl rfl ?_
 repeat refine aa rfl ?_
 refine am rfl rfl rfl m4 rfl rfl ?_
 repeat refine aa rfl ?_
 refine am rfl rfl rfl m3 rfl rfl ?_
 repeat refine aa rfl ?_
 exact aK rfl rfl rfl
theorem uD (x y : RR) {p q : Rat} {n m : Nat} [hx : Vq x p n] [hy : Vq y q m] (hn : n ≤ 10000000) (hm : m ≤ 10000000) : Ret Tryz.prog .shared 28 [.agg (eR x),.agg (eR y)] (.agg (eR (ofQ (p - q)))) := by
 have h1 := ux y (by omega)
 have vn : Vq (ofQ (-q)) (-q) (m + 1) := Vq.ofQ (h := @HQ.neg _ _ hy.hq)
 have h2 := nD x (ofQ (-q)) (hy := vn) (by omega) (by omega)
 rw [← Rat.sub_eq_add_neg] at h2
 generalize ofQ (-q) = Y at *
 generalize ofQ (p - q) = X at *
 refine Ret.of_pwp layOk mixed Go.Proofs.Tryz.func28 rfl (by decide) rfl rfl ?_
 repeat refine aa rfl ?_
 refine ah 4 [5,6,7,8] (by decide +kernel) ?_
 repeat refine aa rfl ?_
 refine am rfl rfl rfl h1 rfl rfl ?_
 repeat refine aa rfl ?_
 refine am rfl rfl rfl h2 rfl rfl ?_
 repeat refine aa rfl ?_
 exact aK rfl rfl rfl
theorem zO (p : Rat) : jQ p.num = sgn p := by
 have h1 : (ofQ p).val = p := ofQ_val p
 have h2 := s9 (ofQ p)
 rw [h1,fh] at h2
 have h3 : (dn (ofQ p)).val = (p.den : Int) := by rw [dn,if_neg (zE p),dj]
 rw [h3] at h2
 rw [h2]
 have := p.den_pos
 have h4 : jQ (p.den : Int) = 1 := by unfold jQ;split <;> (try split) <;> omega
 rw [h4];omega
theorem rN (x : RR) {p : Rat} {n : Nat} [hx : Vq x p n] (hn : n ≤ 50000000) : Ret Tryz.prog .shared 29 [.agg (eR x)] (I (sgn p)) := by
 have h1 := hx.sz
 have hl := dG hx.hq.ok
 have hnm := dV x (by omega) (by omega)
 rw [hx.val] at hnm
 have hs := uC (ofQ p).n (by omega)
 rw [fh,zO] at hs
 generalize sgn p = g at *
 generalize ofQ p = P at *
 obtain ⟨Pn,Pd⟩ := P
 simp only at *
 refine Ret.of_pwp layOk mixed Go.Proofs.Tryz.func29 rfl (by decide) rfl rfl ?_
 repeat refine aa rfl ?_
 refine am rfl rfl rfl hnm rfl rfl ?_
 repeat refine aa rfl ?_
 refine aJ rfl rfl rfl hs rfl rfl rfl ?_
 repeat refine aa rfl ?_
 exact aX rfl rfl rfl
theorem g6 (x y : RR) {p q : Rat} {n m : Nat} [hx : Vq x p n] [hy : Vq y q m] (hn : n ≤ 10000000) (hm : m ≤ 10000000) : Ret Tryz.prog .shared 42 [.agg (eR x),.agg (eR y)] (I (sgn (p - q))) := by
 have h1 := uD x y hn hm
 have vs : Vq (ofQ (p - q)) (p - q) (n + 1 + (m + 1) + 1) := Vq.ofQ (h := @HQ.sub _ _ _ _ hx.hq hy.hq)
 have h2 := rN (ofQ (p - q)) (hx := vs) (by omega)
 generalize ofQ (p - q) = X at *
 generalize sgn (p - q) = g at *
 refine Ret.of_pwp layOk mixed Go.Proofs.Tryz.func42 rfl (by decide) rfl rfl ?_
 repeat refine aa rfl ?_
 refine am rfl rfl rfl h1 rfl rfl ?_
 repeat refine aa rfl ?_
 refine aJ rfl rfl rfl h2 rfl rfl rfl ?_
 repeat refine aa rfl ?_
 exact aX rfl rfl rfl
set_option maxRecDepth 20000 in
theorem q9 (n : Nat) (hn : n < 18446744073709551616) : Ret Tryz.prog .shared 140 [.int .u64 (n : Nat)] (.sl ((ak n).map eU)) := by
 refine Ret.of_pwp layOk mixed Go.Proofs.Tryz.func140 rfl (by decide) rfl rfl ?_
 ((repeat (first | refine aY ?_ | refine b7 ?_ | refine bY ?_ | refine bX ?_));refine a8 ?_)
 refine ii rfl trivial ?_
 ((repeat (first | refine aY ?_ | refine b7 ?_ | refine bY ?_ | refine bX ?_));refine a8 ?_)
 (first | refine ax (eQ 180 1 0 rfl rfl ?_) | refine ax (eP 180 1 0 rfl rfl ?_))
 repeat refine aa rfl ?_
 refine ap (fun q : Nat × List UInt16 => (ak n = q.2 ++ ak q.1 ∧ q.1 < 18446744073709551616) ∧ q.1 * 65536 ^ q.2.length ≤ n) (fun q => [(0,.int .u64 (q.1 : Nat)),(3,.als 3 (1 + q.2.length) 0 (q.2.map eU).length)]) (fun q => [(3,1 + q.2.length,⟨180,1,q.2.map eU,0⟩)]) (fun q => q.1) (n,[]) ⟨⟨rfl,hn⟩,by simp⟩ ⟨rfl,rfl,rfl,trivial⟩ ?_
 rintro ⟨m,L⟩ s ⟨⟨hL,hmn⟩,hb⟩
 simp only at hL hb hmn
 dsimp only
 repeat refine aa rfl ?_
 refine ab rfl ?_ ?_<;>intro h
 ·have hm : 0 < m := by have := of_decide_eq_true h;omega
  clear h
  have hLl : L.length < 4 := by
   rcases Nat.lt_or_ge L.length 4 with h | h
   ·exact h
   ·exfalso
    have h1 : 65536 ^ 4 ≤ 65536 ^ L.length := Nat.pow_le_pow_right (by decide) h
    have h2 := Nat.mul_le_mul (show 1 ≤ m by omega) h1
    have : 1 * 65536 ^ 4 = 18446744073709551616 := by decide
    omega
  have hL2 := l6 hL hm
  have hb2 : m / 65536 * 65536 ^ (L ++ [UInt16.ofNat m]).length ≤ n := by
   rw [List.length_append,List.length_singleton,Nat.pow_succ,Nat.mul_comm (65536 ^ _),← Nat.mul_assoc]
   exact Nat.le_trans (Nat.mul_le_mul_right _ (Nat.div_mul_le_self _ _)) hb
  have ha := Ar m hmn
  have hcv : IntKind.u16.wrap ((m - m / 65536 * 65536 : Nat) : Int) = ((UInt16.ofNat m).toNat : Int) := by rw [wrap_u16,aN,aN];omega
  repeat refine aa rfl ?_
  rw [ha,hcv]
  refine bp rfl rfl (dc rfl rfl rfl rfl rfl rfl rfl rfl rfl rfl (by repeat' constructor) rfl) ?_
  refine ax (bZ 0 rfl rfl rfl rfl rfl rfl rfl rfl rfl rfl rfl (by repeat' constructor) (by intro row hr;first | (simp at hr;subst hr;rfl) | simp at hr) rfl rfl (by simp;omega) (by simp;omega) ?_)
  repeat refine aa rfl ?_
  refine ⟨(m / 65536,L ++ [UInt16.ofNat m]),⟨⟨hL2,by simp only;omega⟩,hb2⟩,by simp only;omega,?_,?_,?_,trivial⟩
  ·show PV.int .u64 ((m : Int) / 2 ^ (16 : Int).toNat) = PV.int .u64 ((m / 65536 : Nat) : Int)
   rw [show ((2 : Int) ^ (16 : Int).toNat) = 65536 by decide];congr 1
  ·exact kS eU 3 1 L (UInt16.ofNat m)
  ·exact jh eU 1 180 1 0 L (UInt16.ofNat m)
 ·have hm : m = 0 := by have := of_decide_eq_false h;omega
  subst hm
  clear h
  rw [bc,List.append_nil] at hL
  rw [hL]
  repeat refine aa rfl ?_
  exact eM rfl rfl rfl ⟨rfl,rfl,rfl⟩ rfl
set_option maxRecDepth 20000 in
theorem n6 (z : Int) (hz : i64 z) : Ret Tryz.prog .shared 86 [I z] (.agg (eI (bE z))) := by
 obtain ⟨h0,h1⟩ := hz
 have hn := q9 z.natAbs (by omega)
 by_cases hz : z < 0
 ·rw [bE,decide_eq_true hz]
  have w1 : IntKind.i64.wrap (z + 1) = z + 1 := wrap_i64 (by omega) (by omega)
  have w2 : IntKind.i64.wrap (0 - (z + 1)) = 0 - (z + 1) := wrap_i64 (by omega) (by omega)
  have w3 : IntKind.u64.wrap (0 - (z + 1)) = 0 - (z + 1) := wrap_u64 (by omega) (by omega)
  have w4 : IntKind.u64.wrap (0 - (z + 1) + 1) = ((z.natAbs : Nat) : Int) := by rw [wrap_u64 (by omega) (by omega)];omega
  generalize ak z.natAbs = A at *
  generalize ((z.natAbs : Nat) : Int) = na at *
  refine Ret.of_pwp layOk mixed Go.Proofs.Tryz.func86 rfl (by decide) rfl rfl ?_
  repeat refine aa rfl ?_
  refine ab rfl ?_ ?_<;>intro h
  ·clear h
   repeat refine aa rfl ?_
   rw [w1]
   repeat refine aa rfl ?_
   rw [w2]
   repeat refine aa rfl ?_
   rw [w3]
   repeat refine aa rfl ?_
   rw [w4]
   repeat refine aa rfl ?_
   refine am rfl rfl rfl hn rfl rfl ?_
   repeat refine aa rfl ?_
   exact aK rfl rfl rfl
  ·exact absurd hz (of_decide_eq_false h)
 ·rw [bE,decide_eq_false hz]
  have w : IntKind.u64.wrap z = ((z.natAbs : Nat) : Int) := by rw [wrap_u64 (by omega) (by omega)];omega
  generalize ak z.natAbs = A at *
  refine Ret.of_pwp layOk mixed Go.Proofs.Tryz.func86 rfl (by decide) rfl rfl ?_
  repeat refine aa rfl ?_
  refine ab rfl ?_ ?_<;>intro h
  ·exact absurd (of_decide_eq_true h) hz
  ·clear h
   repeat refine aa rfl ?_
   rw [w]
   refine am rfl rfl rfl hn rfl rfl ?_
   repeat refine aa rfl ?_
   exact aK rfl rfl rfl
theorem fZ (z : Int) (hz : i64 z) : Ret Tryz.prog .shared 25 [I z] (.agg (eR (ofQ (z : Rat)))) := by
 have h1 := n6 z hz
 have h2 := n6 1 ⟨by decide,by decide⟩
 rw [p6]
 generalize bE z = X at *
 generalize bE 1 = Y at *
 refine Ret.of_pwp layOk mixed Go.Proofs.Tryz.func25 rfl (by decide) rfl rfl ?_
 repeat refine aa rfl ?_
 refine am rfl rfl rfl h1 rfl rfl ?_
 repeat refine aa rfl ?_
 refine am rfl rfl rfl h2 rfl rfl ?_
 repeat refine aa rfl ?_
 exact aK rfl rfl rfl
set_option maxRecDepth 20000 in
theorem nL (a : RI) (ha : a.l.length ≤ 1000000000) : Ret Tryz.prog .shared 101 [.agg (eI a),.agg (eI a)] (.bool true) := by
 obtain ⟨n,l⟩ := a
 simp only at ha
 have hml : (l.map eU).length = l.length := by simp
 have hnn : (n != n) = false := by cases n <;> rfl
 have main : ∀ nn : Bool,nn = n → Ret Tryz.prog .shared 101 [.agg [.bool nn,.sl (l.map eU)],.agg [.bool nn,.sl (l.map eU)]] (.bool true) := by
  intro nn _
  cases nn <;>
  ·refine Ret.of_pwp layOk mixed Go.Proofs.Tryz.func101 rfl (by decide) rfl rfl ?_
   repeat refine aa rfl ?_
   refine ab rfl ?_ ?_<;>intro h
   ·simp at h
   clear h
   repeat refine aa rfl ?_
   refine ap (fun k => k ≤ l.length) (fun k => [(2,.ptr 2 1 0 0),(3,.ptr 3 1 0 0),(5,I (k : Nat))]) (fun _ => [(2,1,⟨24,2,[eI ⟨_,l⟩],2⟩),(3,1,⟨24,2,[eI ⟨_,l⟩],2⟩)]) (fun k => l.length - k) 0 (Nat.zero_le _) ⟨rfl,rfl,rfl,rfl,rfl,trivial⟩ ?_
   intro k s hk
   repeat refine aa rfl ?_
   refine ab rfl ?_ ?_<;>intro h
   ·have hlt : k < l.length := by have := of_decide_eq_true h;simp only [List.length_map] at this;omega
    clear h
    obtain ⟨x,hx⟩ := aH hlt
    have hw := iA k
    repeat refine aa rfl ?_
    refine ah 11 [27,28,29,30,31,32,33,34,35,36,37] (by decide +kernel) ?_
    repeat refine aa rfl ?_
    refine bL rfl rfl rfl rfl rfl rfl rfl hx rfl ?_
    repeat refine aa rfl ?_
    refine bL rfl rfl rfl rfl rfl rfl rfl hx rfl ?_
    repeat refine aa rfl ?_
    refine ab rfl ?_ ?_<;>intro h
    ·simp at h
    clear h
    repeat refine aa rfl ?_
    exact ⟨k + 1,hlt,by omega,rfl,rfl,congrArg I hw,rfl,rfl,trivial⟩
   ·repeat refine aa rfl ?_
    exact aI rfl rfl rfl
 exact main n rfl
def RR.le (x : RR) (n : Nat) : Prop := x.n.l.length ≤ n ∧ x.d.l.length ≤ n
theorem nM (x : RR) (hx : x.le 1000000000) : Ret Tryz.prog .shared 32 [.agg (eR x),.agg (eR x)] (.bool true) := by
 have h1 := nL x.n hx.1
 have h2 := nL x.d hx.2
 obtain ⟨xn,xd⟩ := x
 refine Ret.of_pwp layOk mixed Go.Proofs.Tryz.func32 rfl (by decide) rfl rfl ?_
 repeat refine aa rfl ?_
 refine aJ rfl rfl rfl h1 rfl rfl rfl ?_
 repeat refine aa rfl ?_
 refine aJ rfl rfl rfl h2 rfl rfl rfl ?_
 repeat refine aa rfl ?_
 exact aI rfl rfl rfl
theorem mu {p : Rat} {n : Nat} (h : HQ p n) (hn : n ≤ 100000000) : Ret Tryz.prog .shared 32 [.agg (eR (ofQ p)),.agg (eR (ofQ p))] (.bool true) := by
 have := dG h.ok
 exact nM _ ⟨by omega,by omega⟩
theorem i5 (l : List RR) (hl : l.length ≤ 1000000) (hs : ∀ x ∈ l,x.le 1000000000) : Ret Tryz.prog .shared 45 [.sl (l.map eR),.sl (l.map eR)] (.bool true) := by
 have hml : (l.map eR).length = l.length := by simp
 refine Ret.of_pwp layOk mixed Go.Proofs.Tryz.func45 rfl (by decide) rfl rfl ?_
 repeat refine aa rfl ?_
 refine ab rfl ?_ ?_<;>intro h
 ·simp at h
 clear h
 repeat refine aa rfl ?_
 refine ap (fun k => k ≤ l.length) (fun k => [(0,.sl (l.map eR)),(1,.sl (l.map eR)),(5,I (k : Nat))]) (fun _ => []) (fun k => l.length - k) 0 (Nat.zero_le _) ⟨rfl,rfl,rfl,trivial⟩ ?_
 intro k s hk
 repeat refine aa rfl ?_
 refine ab rfl ?_ ?_<;>intro h
 ·have hlt : k < l.length := by have := of_decide_eq_true h;omega
  clear h
  obtain ⟨x,hx⟩ := aH hlt
  have hxr := nM x (hs x (List.mem_of_getElem? hx))
  have hw := iA k
  repeat refine aa rfl ?_
  refine ah 10 [17,18,19,20,21,22,23,24,25,26] (by decide +kernel) ?_
  repeat refine aa rfl ?_
  refine bL rfl rfl rfl rfl rfl rfl rfl hx rfl ?_
  repeat refine aa rfl ?_
  refine bL rfl rfl rfl rfl rfl rfl rfl hx rfl ?_
  repeat refine aa rfl ?_
  refine aJ rfl rfl rfl hxr rfl rfl rfl ?_
  repeat refine aa rfl ?_
  exact ⟨k + 1,hlt,by omega,rfl,rfl,congrArg I hw,trivial⟩
 ·repeat refine aa rfl ?_
  exact aI rfl rfl rfl
def kf (x : RR) (n : Nat) : Bool := decide (x.n.l.length ≤ n) && decide (x.d.l.length ≤ n)
theorem fM {x : RR} {n : Nat} : kf x n = true ↔ x.sz n := by rw [kf,Bool.and_eq_true,decide_eq_true_eq,decide_eq_true_eq];rfl
theorem cS (x : RR) (n : Nat) (hn : n ≤ 1000000) : Ret Tryz.prog .shared 17 [.agg (eR x),I (n : Nat)] (.bool (kf x n)) := by
 have e1 : decide ((((x.n.l.map eU).length : Nat) : Int) ≤ (n : Int)) = decide (x.n.l.length ≤ n) := by rw [decide_eq_decide,List.length_map];omega
 have e2 : decide ((((x.d.l.map eU).length : Nat) : Int) ≤ (n : Int)) = decide (x.d.l.length ≤ n) := by rw [decide_eq_decide,List.length_map];omega
 rw [kf,← e1,← e2]
 obtain ⟨⟨xn,xl⟩,⟨yn,yl⟩⟩ := x
 refine Ret.of_pwp layOk mixed Go.Proofs.Tryz.func17 rfl (by decide) rfl rfl ?_
 repeat refine aa rfl ?_
 refine e_ rfl rfl rfl ?_ ?_<;>intro h
 ·rw [h]
  clear h
  repeat refine aa rfl ?_
  exact aI rfl rfl rfl
 ·rw [h]
  clear h
  repeat refine aa rfl ?_
  exact aI rfl rfl rfl
theorem jH (l : List RR) (n : Nat) (hn : n ≤ 1000000) (hl : l.length ≤ 9223372036854775807) : Ret Tryz.prog .shared 36 [.sl (l.map eR),I (n : Nat)] (.bool (l.all fun x => kf x n)) := by
 have hml : (l.map eR).length = l.length := by simp
 generalize hF : (l.all fun x => kf x n) = F
 refine Ret.of_pwp layOk mixed Go.Proofs.Tryz.func36 rfl (by decide) rfl rfl ?_
 repeat refine aa rfl ?_
 refine ap (fun k => k ≤ l.length ∧ ((l.drop k).all fun x => kf x n) = F) (fun k => [(0,.sl (l.map eR)),(1,I (n : Nat)),(5,I (k : Nat))]) (fun _ => []) (fun k => l.length - k) 0 ⟨Nat.zero_le _,by rw [List.drop_zero];exact hF⟩ ⟨rfl,rfl,rfl,trivial⟩ ?_
 intro k s ⟨hk,hD⟩
 repeat refine aa rfl ?_
 refine ab rfl ?_ ?_<;>intro h
 ·have hlt : k < l.length := by have := of_decide_eq_true h;omega
  clear h
  obtain ⟨x,hx⟩ := aH hlt
  have hr := cS x n hn
  have hw := iA k
  have hdr : ((l.drop k).all fun x => kf x n) = (kf x n && (l.drop (k + 1)).all fun x => kf x n) := by
   obtain ⟨hl1,h2⟩ := List.getElem?_eq_some_iff.1 hx
   rw [List.drop_eq_getElem_cons hl1,h2,List.all_cons]
  rw [hdr] at hD
  cases hs : kf x n with
  |true =>
   rw [hs] at hr hD
   rw [Bool.true_and] at hD
   repeat refine aa rfl ?_
   refine bL rfl rfl rfl rfl rfl rfl rfl hx rfl ?_
   repeat refine aa rfl ?_
   refine aJ rfl rfl rfl hr rfl rfl rfl ?_
   repeat refine aa rfl ?_
   exact ⟨k + 1,⟨hlt,hD⟩,by omega,rfl,rfl,congrArg I hw,trivial⟩
  |false =>
   rw [hs] at hr hD
   rw [Bool.false_and] at hD
   subst hD
   repeat refine aa rfl ?_
   refine bL rfl rfl rfl rfl rfl rfl rfl hx rfl ?_
   repeat refine aa rfl ?_
   refine aJ rfl rfl rfl hr rfl rfl rfl ?_
   repeat refine aa rfl ?_
   exact aI rfl rfl rfl
 ·have hie : k = l.length := by have := of_decide_eq_false h;omega
  clear h
  rw [hie,List.drop_length,List.all_nil] at hD
  subst hD
  repeat refine aa rfl ?_
  exact aI rfl rfl rfl
def ve (st : Nat) (s : SR) : Bool := !(decide (st < s.k.S.length) || decide (st + 1 < s.k.M.length) || !kf s.c 3 || !(s.k.M.all fun x => kf x 3))
theorem ta {st : Nat} {s : SR} : ve st s = true ↔ rS st s := by
 rw [ve,rS]
 simp only [Bool.not_eq_true',Bool.or_eq_false_iff,decide_eq_false_iff_not,Bool.not_eq_false',List.all_eq_true,fM]
 constructor
 ·rintro ⟨⟨⟨h1,h2⟩,h3⟩,h4⟩;exact ⟨by omega,by omega,h3,h4⟩
 ·rintro ⟨h1,h2,h3,h4⟩;exact ⟨⟨⟨by omega,by omega⟩,h3⟩,h4⟩
def Bq (l : List SR) (most st : Nat) : Bool := decide (l.length ≤ most) && l.all (ve st)
theorem s_ {l : List SR} {most st : Nat} : Bq l most st = true ↔ jT l most st := by
 rw [Bq,Bool.and_eq_true,decide_eq_true_eq,List.all_eq_true,jT]
 constructor
 ·rintro ⟨h1,h2⟩;exact ⟨h1,fun s hs => ta.1 (h2 s hs)⟩
 ·rintro ⟨h1,h2⟩;exact ⟨h1,fun s hs => ta.2 (h2 s hs)⟩
def yK (l : List SR) : Prop := l.length ≤ 9223372036854775807 ∧ ∀ s ∈ l,s.k.S.length ≤ 9223372036854775807 ∧ s.k.M.length ≤ 9223372036854775807
set_option maxRecDepth 20000 in
theorem rR (l : List SR) (hll : yK l) (most st : Nat) (hm : most ≤ 1000) (hst : st ≤ 1000) : Ret Tryz.prog .shared 16 [.sl (l.map eS),I (most : Nat),I (st : Nat)] (.bool (Bq l most st)) := by
 have hml : (l.map eS).length = l.length := by simp
 by_cases h0 : most < l.length
 ·rw [Bq,decide_eq_false (by omega),Bool.false_and]
  refine Ret.of_pwp layOk mixed Go.Proofs.Tryz.func16 rfl (by decide) rfl rfl ?_
  repeat refine aa rfl ?_
  refine ab rfl ?_ ?_<;>intro h
  ·clear h
   repeat refine aa rfl ?_
   exact aI rfl rfl rfl
  ·have := of_decide_eq_false h;omega
 rw [Bq,decide_eq_true (by omega),Bool.true_and]
 generalize hF : (l.all (ve st)) = F
 refine Ret.of_pwp layOk mixed Go.Proofs.Tryz.func16 rfl (by decide) rfl rfl ?_
 repeat refine aa rfl ?_
 refine ab rfl ?_ ?_<;>intro h
 ·have := of_decide_eq_true h;omega
 clear h
 repeat refine aa rfl ?_
 refine ap (fun k => k ≤ l.length ∧ ((l.drop k).all (ve st)) = F) (fun k => [(0,.sl (l.map eS)),(2,I (st : Nat)),(7,I (k : Nat))]) (fun _ => []) (fun k => l.length - k) 0 ⟨Nat.zero_le _,by rw [List.drop_zero];exact hF⟩ ⟨rfl,rfl,rfl,trivial⟩ ?_
 intro k s ⟨hk,hD⟩
 repeat refine aa rfl ?_
 refine ab rfl ?_ ?_<;>intro h
 ·have hlt : k < l.length := by have := of_decide_eq_true h;omega
  clear h
  obtain ⟨x,hx⟩ := aH hlt
  have hl2 := hll.2 x (List.mem_of_getElem? hx)
  have hr := cS x.c 3 (by decide)
  have hr2 := jH x.k.M 3 (by decide) (by omega)
  have hw := iA k
  have hws : IntKind.i64.wrap (((st : Nat) : Int) + 1) = ((st + 1 : Nat) : Int) := by rw [wrap_i64 (by omega) (by omega)];omega
  have hdr : ((l.drop k).all (ve st)) = (ve st x && (l.drop (k + 1)).all (ve st)) := by
   obtain ⟨hl1,h2⟩ := List.getElem?_eq_some_iff.1 hx
   rw [List.drop_eq_getElem_cons hl1,h2,List.all_cons]
  rw [hdr] at hD
  have hsx : ve st x = ve st x := rfl
  conv at hsx => rhs;rw [ve]
  generalize ve st x = ok at *
  generalize kf x.c 3 = o1 at *
  obtain ⟨o2,ho2⟩ : ∃ o2,(x.k.M.all fun y => kf y 3) = o2 := ⟨_,rfl⟩
  rw [ho2] at hsx hr2
  clear ho2
  obtain ⟨xx,xc,⟨xS,xM⟩⟩ := x
  simp only at *
  have lS : (xS.map eN).length = xS.length := by simp
  have lM : (xM.map eR).length = xM.length := by simp
  by_cases hb1 : st < xS.length
  ·rw [decide_eq_true hb1] at hsx
   simp only [Bool.true_or,Bool.not_true] at hsx
   subst hsx
   rw [Bool.false_and] at hD
   subst hD
   repeat refine aa rfl ?_
   refine bL rfl rfl rfl rfl rfl rfl rfl hx rfl ?_
   repeat refine aa rfl ?_
   refine e_ rfl rfl rfl ?_ ?_<;>intro h
   ·clear h
    repeat refine aa rfl ?_
    exact aI rfl rfl rfl
   ·exfalso
    have := of_decide_eq_false h
    simp only [lS] at this
    omega
  rw [decide_eq_false hb1,Bool.false_or] at hsx
  by_cases hb2 : st + 1 < xM.length
  ·rw [decide_eq_true hb2] at hsx
   simp only [Bool.true_or,Bool.not_true] at hsx
   subst hsx
   rw [Bool.false_and] at hD
   subst hD
   repeat refine aa rfl ?_
   refine bL rfl rfl rfl rfl rfl rfl rfl hx rfl ?_
   repeat refine aa rfl ?_
   refine e_ rfl rfl rfl ?_ ?_<;>intro h
   ·exfalso
    have := of_decide_eq_true h
    simp only [lS] at this
    omega
   ·clear h
    repeat refine aa rfl ?_
    rw [hws]
    repeat refine aa rfl ?_
    refine e_ rfl rfl rfl ?_ ?_<;>intro h
    ·clear h
     repeat refine aa rfl ?_
     exact aI rfl rfl rfl
    ·exfalso
     have := of_decide_eq_false h
     simp only [lM] at this
     omega
  rw [decide_eq_false hb2,Bool.false_or] at hsx
  cases o1 with
  |false =>
   simp only [Bool.not_false,Bool.true_or,Bool.not_true] at hsx
   subst hsx
   rw [Bool.false_and] at hD
   subst hD
   repeat refine aa rfl ?_
   refine bL rfl rfl rfl rfl rfl rfl rfl hx rfl ?_
   repeat refine aa rfl ?_
   refine e_ rfl rfl rfl ?_ ?_<;>intro h
   ·exfalso
    have := of_decide_eq_true h
    simp only [lS] at this
    omega
   ·clear h
    repeat refine aa rfl ?_
    rw [hws]
    repeat refine aa rfl ?_
    refine e_ rfl rfl rfl ?_ ?_<;>intro h
    ·exfalso
     have := of_decide_eq_true h
     simp only [lM] at this
     omega
    ·clear h
     repeat refine aa rfl ?_
     refine bL rfl rfl rfl rfl rfl rfl rfl hx rfl ?_
     repeat refine aa rfl ?_
     refine aJ rfl rfl rfl hr rfl rfl rfl ?_
     repeat refine aa rfl ?_
     exact aI rfl rfl rfl
  |true =>
   simp only [Bool.not_true,Bool.false_or,Bool.not_not] at hsx
   subst hsx
   cases ok with
   |false =>
    rw [Bool.false_and] at hD
    subst hD
    repeat refine aa rfl ?_
    refine bL rfl rfl rfl rfl rfl rfl rfl hx rfl ?_
    repeat refine aa rfl ?_
    refine e_ rfl rfl rfl ?_ ?_<;>intro h
    ·exfalso
     have := of_decide_eq_true h
     simp only [lS] at this
     omega
    ·clear h
     repeat refine aa rfl ?_
     rw [hws]
     repeat refine aa rfl ?_
     refine e_ rfl rfl rfl ?_ ?_<;>intro h
     ·exfalso
      have := of_decide_eq_true h
      simp only [lM] at this
      omega
     ·clear h
      repeat refine aa rfl ?_
      refine bL rfl rfl rfl rfl rfl rfl rfl hx rfl ?_
      repeat refine aa rfl ?_
      refine aJ rfl rfl rfl hr rfl rfl rfl ?_
      repeat refine aa rfl ?_
      refine aJ rfl rfl rfl hr2 rfl rfl rfl ?_
      repeat refine aa rfl ?_
      exact aI rfl rfl rfl
   |true =>
    rw [Bool.true_and] at hD
    repeat refine aa rfl ?_
    refine bL rfl rfl rfl rfl rfl rfl rfl hx rfl ?_
    repeat refine aa rfl ?_
    refine e_ rfl rfl rfl ?_ ?_<;>intro h
    ·exfalso
     have := of_decide_eq_true h
     simp only [lS] at this
     omega
    ·clear h
     repeat refine aa rfl ?_
     rw [hws]
     repeat refine aa rfl ?_
     refine e_ rfl rfl rfl ?_ ?_<;>intro h
     ·exfalso
      have := of_decide_eq_true h
      simp only [lM] at this
      omega
     ·clear h
      repeat refine aa rfl ?_
      refine bL rfl rfl rfl rfl rfl rfl rfl hx rfl ?_
      repeat refine aa rfl ?_
      refine aJ rfl rfl rfl hr rfl rfl rfl ?_
      repeat refine aa rfl ?_
      refine aJ rfl rfl rfl hr2 rfl rfl rfl ?_
      repeat refine aa rfl ?_
      exact ⟨k + 1,⟨hlt,hD⟩,by omega,rfl,rfl,congrArg I hw,trivial⟩
 ·have hie : k = l.length := by have := of_decide_eq_false h;omega
  clear h
  rw [hie,List.drop_length,List.all_nil] at hD
  subst hD
  repeat refine aa rfl ?_
  exact aI rfl rfl rfl
def io (b : BR) : Bool := Bq b.l 10 4 && kf b.a 3
theorem l8 (b : BR) (hll : yK b.l) : Ret Tryz.prog .shared 30 [.agg (eB b)] (.bool (io b)) := by
 have h1 := rR b.l hll 10 4 (by decide) (by decide)
 have h2 := cS b.a 3 (by decide)
 rw [io]
 generalize Bq b.l 10 4 = x1 at *
 generalize kf b.a 3 = x2 at *
 obtain ⟨w,a,l⟩ := b
 simp only at *
 cases x1
 ·rw [Bool.false_and]
  refine Ret.of_pwp layOk mixed Go.Proofs.Tryz.func30 rfl (by decide) rfl rfl ?_
  repeat refine aa rfl ?_
  refine aJ rfl rfl rfl h1 rfl rfl rfl ?_
  repeat refine aa rfl ?_
  exact aI rfl rfl rfl
 ·rw [Bool.true_and]
  refine Ret.of_pwp layOk mixed Go.Proofs.Tryz.func30 rfl (by decide) rfl rfl ?_
  repeat refine aa rfl ?_
  refine aJ rfl rfl rfl h1 rfl rfl rfl ?_
  repeat refine aa rfl ?_
  refine aJ rfl rfl rfl h2 rfl rfl rfl ?_
  repeat refine aa rfl ?_
  exact aI rfl rfl rfl
def jV (a : AR) : Bool := kf a.z 4 && kf a.t 4
theorem m0 (a : AR) : Ret Tryz.prog .shared 22 [.agg (eA a)] (.bool (jV a)) := by
 have h1 := cS a.z 4 (by decide)
 have h2 := cS a.t 4 (by decide)
 rw [jV]
 generalize kf a.z 4 = x1 at *
 generalize kf a.t 4 = x2 at *
 obtain ⟨z,t⟩ := a
 simp only at *
 cases x1
 ·rw [Bool.false_and]
  refine Ret.of_pwp layOk mixed Go.Proofs.Tryz.func22 rfl (by decide) rfl rfl ?_
  repeat refine aa rfl ?_
  refine aJ rfl rfl rfl h1 rfl rfl rfl ?_
  repeat refine aa rfl ?_
  exact aI rfl rfl rfl
 ·rw [Bool.true_and]
  refine Ret.of_pwp layOk mixed Go.Proofs.Tryz.func22 rfl (by decide) rfl rfl ?_
  repeat refine aa rfl ?_
  refine aJ rfl rfl rfl h1 rfl rfl rfl ?_
  repeat refine aa rfl ?_
  refine aJ rfl rfl rfl h2 rfl rfl rfl ?_
  repeat refine aa rfl ?_
  exact aI rfl rfl rfl
theorem xf (x y : RR) {p q : Rat} {n m : Nat} [hx : Vq x p n] [hy : Vq y q m] (hn : n ≤ 20000000) (hm : m ≤ 20000000) : Ret Tryz.prog .shared 108 [.agg (eR x),.agg (eR y)] (.agg (eR (ofQ (p + q)))) := by
 have h := nD x y hn hm
 generalize ofQ (p + q) = X at *
 refine Ret.of_pwp layOk mixed Go.Proofs.Tryz.func108 rfl (by decide) rfl rfl ?_
 repeat refine aa rfl ?_
 refine am rfl rfl rfl h rfl rfl ?_
 repeat refine aa rfl ?_
 exact aK rfl rfl rfl
theorem Bt (x y : RR) {p q : Rat} {n m : Nat} [hx : Vq x p n] [hy : Vq y q m] (hn : n ≤ 20000000) (hm : m ≤ 20000000) : Ret Tryz.prog .shared 111 [.agg (eR x),.agg (eR y)] (.agg (eR (ofQ (p * q)))) := by
 have h := nI x y hn hm
 generalize ofQ (p * q) = X at *
 refine Ret.of_pwp layOk mixed Go.Proofs.Tryz.func111 rfl (by decide) rfl rfl ?_
 repeat refine aa rfl ?_
 refine am rfl rfl rfl h rfl rfl ?_
 repeat refine aa rfl ?_
 exact aK rfl rfl rfl
theorem Bx : Ret Tryz.prog .shared 25 [I 0] (.agg (eR (ofQ 0))) := by
 have := fZ 0 ⟨by decide,by decide⟩
 rwa [show (((0 : Int) : Rat)) = 0 from rfl] at this
theorem Cl {c : CR} (hc : c.Lim) (k : Nat) : HQ (c.s k) 4 := by
 have h := jG hc k
 have z1 : Zb (c.S.getD k 0) := aR h.1 h.2
 exact HQ.int
theorem yw {c : CR} (hc : c.Lim) {p : Rat} {n N : Nat} (hp : HQ p n) (k : Nat) : HQ (i8 c.s N p k) (n + 4) := by
 rw [i8]
 split
 ·rw [c_]
  split
  ·exact (Cl hc (k + 1)).mono (by omega)
  ·exact hp.mono (by omega)
 ·exact hp.mono (by omega)
theorem CD {c : CR} (hc : c.Lim) {p : Rat} {n N : Nat} (hp : HQ p n) (k : Nat) : HQ (i8 c.s N p k - c.s k) (n + 9) := (@HQ.sub _ _ _ _ (yw hc hp k) (Cl hc k)).mono (by omega)
theorem CG {c : CR} (hc : c.Lim) (k : Nat) : HQ (c.m k) 13 := by
 rw [CR.m]
 by_cases hk : k < c.M.length
 ·exact ((hc.m _ (List.mem_of_getElem? (bj (d := RR.zero) hk))).v).hq
 ·rw [List.getD_eq_getElem?_getD,List.getElem?_eq_none (by omega)]
  show HQ RR.zero.val 13
  rw [RR.zero_val];exact HQ.zero.mono (by decide)
theorem Bi {x : Rat} {n : Nat} (h : HQ x n) : HQ (bO x) (n + 4) := by
 rw [bO];split
 ·exact h.mono (by omega)
 ·exact HQ.zero.mono (by omega)
def yI (l : List SR) (z t : Rat) (i : Nat) : Rat := yQ (l.getD i dS) z t
set_option maxRecDepth 20000 in
theorem xL (l : List SR) (hl : fa l) (h12 : l.length ≤ 12) (Fl : List RR) (f : Nat → Rat) {N : Nat} (hf : ∀ i,i < l.length → Fl[i]? = some (ofQ (f i))) (hH : ∀ i,i < l.length → HQ (f i) N) (hN : N ≤ 800500) :
  Ret Tryz.prog .shared 63 [.sl (l.map eS),.sl (Fl.map eR)] (.agg (eR (ofQ (ac f l.length)) ++ eR (ofQ (ac (fun i => f i * xI l i) l.length)))) := by
 have w0 := Bx
 have hml : (l.map eS).length = l.length := by simp
 have hGH : ∀ i,i < l.length → HQ (f i * xI l i) (N + 4) := fun i hi => by
  have hx := (hl.1 _ (aB hi)).x
  have hx : Zb (l.getD i dS).x := aR hx.1 hx.2
  exact @HQ.mul _ _ _ 4 (hH i hi) HQ.int
 have hB : ∀ i,i ≤ l.length → i * (N + 4 + 1) + 4 ≤ 12000000 := fun i hi => by
  have := Nat.mul_le_mul (show i ≤ 12 by omega) (show N + 4 + 1 ≤ 800505 by omega)
  omega
 generalize hg : (fun i => f i * xI l i) = g at *
 refine Ret.of_pwp layOk mixed Go.Proofs.Tryz.func63 rfl (by decide) rfl rfl ?_
 repeat refine aa rfl ?_
 refine am rfl rfl rfl w0 rfl rfl ?_
 repeat refine aa rfl ?_
 refine am rfl rfl rfl w0 rfl rfl ?_
 repeat refine aa rfl ?_
 refine ap (fun i : Nat => i ≤ l.length) (fun i => [(0,.sl (l.map eS)),(1,.sl (Fl.map eR)),(4,.ptr 4 1 0 0),(5,.ptr 5 1 0 0),(6,I (i : Nat))])
  (fun i => [(4,1,⟨90,8,[zN ++ zN],2⟩),(5,1,⟨90,8,[eR (ofQ (ac f i)) ++ eR (ofQ (ac g i))],2⟩)]) (fun i => l.length - i) 0 (Nat.zero_le _) ⟨rfl,rfl,rfl,rfl,rfl,rfl,rfl,trivial⟩ ?_
 intro i s hi
 repeat refine aa rfl ?_
 refine ab rfl ?_ ?_<;>intro h
 ·have hlt : i < l.length := by have := of_decide_eq_true h;omega
  clear h
  have hx := bj (d := dS) hlt
  have hFi := hf i hlt
  have hxx := (hl.1 _ (aB hlt)).x
  have hzb : Zb (l.getD i dS).x := aR hxx.1 hxx.2
  have hw := iA i
  have hBi := hB i hi
  have hgi : f i * ((l.getD i dS).x : Rat) = g i := by rw [← hg];rfl
  have v0 : Vq (ofQ (f i)) (f i) N := Vq.ofQ (h := hH i hlt)
  have vg : Vq (ofQ (g i)) (g i) (N + 4) := Vq.ofQ (h := by rw [← hg];exact hGH i hlt)
  have v1 : Vq (ofQ (ac f i)) (ac f i) (i * (N + 1) + 4) := Vq.ofQ (h := aS i fun k hk => hH k (by omega))
  have v2 : Vq (ofQ (ac g i)) (ac g i) (i * (N + 4 + 1) + 4) := Vq.ofQ (h := aS i fun k hk => by rw [← hg];exact hGH k (by omega))
  have h1 := xf (ofQ (ac f i)) (ofQ (f i)) (hx := v1) (hy := v0) (by have := Nat.mul_le_mul (Nat.le_refl i) (show N + 1 ≤ N + 4 + 1 by omega);omega) (by omega)
  have h2 := fZ (l.getD i dS).x hxx
  have h3 := Bt (ofQ (f i)) (ofQ ((l.getD i dS).x : Rat)) (hx := v0) (by omega) (by decide)
  rw [hgi] at h3
  have h4 := xf (ofQ (ac g i)) (ofQ (g i)) (hx := v2) (hy := vg) (by omega) (by omega)
  rw [show ac f i + f i = ac f (i + 1) from rfl] at h1
  rw [show ac g i + g i = ac g (i + 1) from rfl] at h4
  generalize hF1 : ofQ (ac f (i + 1)) = F1 at *
  generalize hG1 : ofQ (ac g (i + 1)) = G1 at *
  generalize ofQ (ac f i) = F0 at *
  generalize ofQ (ac g i) = G0 at *
  generalize ofQ (f i) = f0 at *
  generalize ofQ (g i) = g0 at *
  repeat refine aa rfl ?_
  refine ah 8 [16,17,18,19,20,21,22,23] (by decide +kernel) ?_
  repeat refine aa rfl ?_
  refine bL rfl rfl rfl rfl rfl rfl rfl hFi rfl ?_
  repeat refine aa rfl ?_
  refine am rfl rfl rfl h1 rfl rfl ?_
  repeat refine aa rfl ?_
  refine ah 15 [24,25,26,27,28,29,30,31,32,33,34,35,36,37,38] (by decide +kernel) ?_
  repeat refine aa rfl ?_
  refine bL rfl rfl rfl rfl rfl rfl rfl hFi rfl ?_
  repeat refine aa rfl ?_
  refine bL rfl rfl rfl rfl rfl rfl rfl hx rfl ?_
  repeat refine aa rfl ?_
  refine am rfl rfl rfl h2 rfl rfl ?_
  repeat refine aa rfl ?_
  refine am rfl rfl rfl h3 rfl rfl ?_
  repeat refine aa rfl ?_
  refine am rfl rfl rfl h4 rfl rfl ?_
  repeat refine aa rfl ?_
  refine ⟨i + 1,hlt,by omega,rfl,rfl,rfl,rfl,congrArg I hw,rfl,?_,trivial⟩
  show (_ : Nat × Option Cont) = (1,some (Cont.mk 90 8 [eR (ofQ (ac f (i + 1))) ++ eR (ofQ (ac g (i + 1)))] 2))
  rw [hF1,hG1]
  rfl
 ·have hie : i = l.length := by have := of_decide_eq_false h;omega
  clear h
  subst hie
  repeat refine aa rfl ?_
  exact aK rfl rfl rfl
theorem vj {l : List SR} {z t : Rat} {i : Nat} (hi : i < l.length) : (FL l z t)[i]? = some (ofQ (fI l z t i)) := by
 rw [FL,List.getElem?_map,bj (d := dS) hi];rfl
theorem Ca {l : List SR} (hl : fa l) (hf : kI l) {z t : Rat} {n m : Nat} (hz : HQ z n) (ht : HQ t m) {i : Nat} (hi : i < l.length) : HQ (fI l z t i) (8 * (n + m + 60) + 4) := pE (hl.1 _ (aB hi)) (hf.2 _ (aB hi)) hz ht
def qW : List RR → List RR → Bool
 |[],[] => true
 |x :: l,y :: m => decide (x.val = y.val) && qW l m
 |_,_ => false
theorem sC : ∀ {l m : List RR},qW l m = true → l.length = m.length
 |[],[],_ => rfl
 |x :: l,y :: m,h => by
  rw [qW,Bool.and_eq_true] at h
  simp [sC h.2]
 |[],_ :: _,h => by cases h
 |_ :: _,[],h => by cases h
theorem wt {l m : List RR} {i : Nat} {x y : RR} (hx : l[i]? = some x) (hy : m[i]? = some y) : qW (l.drop i) (m.drop i) = (decide (x.val = y.val) && qW (l.drop (i + 1)) (m.drop (i + 1))) := by
 obtain ⟨h1,rfl⟩ := List.getElem?_eq_some_iff.1 hx
 obtain ⟨h2,rfl⟩ := List.getElem?_eq_some_iff.1 hy
 rw [List.drop_eq_getElem_cons h1,List.drop_eq_getElem_cons h2,qW]
def rZ (b : BR) (z t : Rat) (F : List RR) : Int := if qW (FL b.l z t) F = true ∧ (bd b).Bal z t then 0 else 24
def BB (F : List RR) (n : Nat) : Prop := ∀ x ∈ F,x.le n
theorem AB {F : List RR} {n : Nat} (h : BB F n) {x : RR} (hx : x ∈ F) : Vq x x.val n := Vq.raw (h x hx).1 (h x hx).2
theorem pc {l : List SR} (hl : fa l) (hf : kI l) {z t : Rat} {n m : Nat} (hz : HQ z n) (ht : HQ t m) : BB (FL l z t) (8 * (n + m + 60) + 4) := by
 intro x hx
 obtain ⟨s,hs,rfl⟩ := List.mem_map.1 hx
 exact dG (pE (hl.1 s hs) (hf.2 s hs) hz ht).ok
theorem vT (x y : RR) {n m : Nat} (hx : Vq x x.val n) (hy : Vq y y.val m) (hn : n ≤ 8000000) (hm : m ≤ 8000000) : Ret Tryz.prog .shared 114 [.agg (eR x),.agg (eR y)] (.bool (decide (x.val = y.val))) := by
 have hc := mN x y hn hm
 have hs := gE (x.val - y.val)
 have e : decide (x.val = y.val) = decide (sgn (x.val - y.val) = 0) := by rw [decide_eq_decide,hs];constructor <;> intro h <;> grind
 rw [e]
 generalize sgn (x.val - y.val) = sg at *
 refine Ret.of_pwp layOk mixed Go.Proofs.Tryz.func114 rfl (by decide) rfl rfl ?_
 repeat refine aa rfl ?_
 refine aJ rfl rfl rfl hc rfl rfl rfl ?_
 repeat refine aa rfl ?_
 exact aI rfl rfl rfl
set_option maxRecDepth 20000 in
theorem y7 (G F : List RR) {n k : Nat} (hG : BB G n) (hF : BB F k) (hn : n ≤ 8000000) (hk : k ≤ 8000000) (h1 : G.length ≤ 9223372036854775807) : Ret Tryz.prog .shared 113 [.sl (G.map eR),.sl (F.map eR),.clo 114 []] (.bool (qW G F)) := by
 have hmF : (F.map eR).length = F.length := by simp
 have hmG : (G.map eR).length = G.length := by simp
 by_cases hlen : G.length = F.length
 ·generalize hQ : qW G F = Q at *
  refine Ret.of_pwp layOk mixed Go.Proofs.Tryz.func113 rfl (by decide) rfl rfl ?_
  repeat refine aa rfl ?_
  refine ab rfl ?_ ?_<;>intro h
  ·exfalso
   simp at h
   omega
  clear h
  repeat refine aa rfl ?_
  refine ap (fun i : Nat => i ≤ G.length ∧ qW (G.drop i) (F.drop i) = Q) (fun i => [(1,.sl (F.map eR)),(2,.clo 114 []),(15,.sl (G.map eR)),(16,I G.length),(17,I (i : Nat))]) (fun i => []) (fun i => G.length - i) 0 ⟨Nat.zero_le _,hQ⟩ ⟨rfl,rfl,rfl,by rw [← hmG];rfl,rfl,trivial⟩ ?_
  intro i s ⟨hi,hD⟩
  repeat refine aa rfl ?_
  refine ab rfl ?_ ?_<;>intro h
  ·have hlt : i < G.length := by have := of_decide_eq_true h;omega
   clear h
   obtain ⟨x,hx⟩ := aH hlt
   obtain ⟨y,hy⟩ := aH (show i < F.length by omega)
   have hc := vT x y (AB hG (List.mem_of_getElem? hx)) (AB hF (List.mem_of_getElem? hy)) hn hk
   have hw := iA i
   rw [wt hx hy] at hD
   by_cases he : x.val = y.val
   ·rw [decide_eq_true he] at hc hD
    rw [Bool.true_and] at hD
    repeat refine aa rfl ?_
    refine bL rfl rfl rfl rfl rfl rfl rfl hx rfl ?_
    repeat refine aa rfl ?_
    refine bL rfl rfl rfl rfl rfl rfl rfl hy rfl ?_
    repeat refine aa rfl ?_
    refine aJ rfl rfl rfl hc rfl rfl rfl ?_
    repeat refine aa rfl ?_
    exact ⟨i + 1,⟨by omega,hD⟩,by omega,rfl,rfl,rfl,rfl,congrArg I hw,trivial⟩
   ·rw [decide_eq_false he] at hc hD
    rw [Bool.false_and] at hD
    subst hD
    repeat refine aa rfl ?_
    refine bL rfl rfl rfl rfl rfl rfl rfl hx rfl ?_
    repeat refine aa rfl ?_
    refine bL rfl rfl rfl rfl rfl rfl rfl hy rfl ?_
    repeat refine aa rfl ?_
    refine aJ rfl rfl rfl hc rfl rfl rfl ?_
    repeat refine aa rfl ?_
    exact aI rfl rfl rfl
  ·have hie : i = G.length := by have := of_decide_eq_false h;omega
   clear h
   rw [hie,List.drop_length,hlen,List.drop_length] at hD
   have hD : true = Q := hD
   subst hD
   repeat refine aa rfl ?_
   exact aI rfl rfl rfl
 ·have hQ : qW G F = false := by
   cases hq : qW G F with
   |false => rfl
   |true => exact absurd (sC hq) hlen
  rw [hQ]
  refine Ret.of_pwp layOk mixed Go.Proofs.Tryz.func113 rfl (by decide) rfl rfl ?_
  repeat refine aa rfl ?_
  refine ab rfl ?_ ?_<;>intro h
  ·clear h
   repeat refine aa rfl ?_
   exact aI rfl rfl rfl
  ·exfalso
   simp at h
   omega
set_option maxRecDepth 20000 in
theorem mf (b : BR) (hb : b.Ok) (a : AR) (F : List RR) {z t : Rat} {n m k : Nat} [ha : Va a z t n m] (hn : n + m ≤ 60000) (hF : BB F k) (hk : k ≤ 1000000) : Ret Tryz.prog .shared 37 [.agg (eB b),.agg (ou a F)] (I (rZ b z t F)) := by
 have h12 := hb.few.1
 have h0 := be b hb.lim
 rw [hb.chk] at h0
 have h1 := dp b.l hb.lim.l hb.chkL a (z := z) (t := t) (by omega)
 have h2 := jd b hb a (z := z) (t := t) hn
 have hle := pc hb.lim.l hb.few ha.z.hq ha.t.hq
 have hll : (FL b.l z t).length ≤ 12 := by rw [FL,List.length_map];omega
 have h3 := y7 (FL b.l z t) F hle hF (by omega) (by omega) (by omega)
 have hE : rZ b z t F = if qW (FL b.l z t) F = true ∧ (bd b).Bal z t then 0 else 24 := rfl
 rw [hE]
 clear hE hle hll
 generalize qW (FL b.l z t) F = Q at *
 generalize FL b.l z t = G at *
 cases Q with
 |false =>
  rw [if_neg (by simp)]
  obtain ⟨w,ba,l⟩ := b
  obtain ⟨az,at'⟩ := a
  simp only at *
  refine Ret.of_pwp layOk mixed Go.Proofs.Tryz.func37 rfl (by decide) rfl rfl ?_
  repeat refine aa rfl ?_
  refine aJ rfl rfl rfl h0 rfl rfl rfl ?_
  repeat refine aa rfl ?_
  refine am rfl rfl rfl h1 rfl rfl ?_
  repeat refine aa rfl ?_
  refine aJ rfl rfl rfl h3 rfl rfl rfl ?_
  repeat refine aa rfl ?_
  exact aX rfl rfl rfl
 |true =>
  by_cases hbal : (bd b).Bal z t
  ·rw [if_pos ⟨rfl,hbal⟩]
   rw [decide_eq_true hbal] at h2
   obtain ⟨w,ba,l⟩ := b
   obtain ⟨az,at'⟩ := a
   simp only at *
   refine Ret.of_pwp layOk mixed Go.Proofs.Tryz.func37 rfl (by decide) rfl rfl ?_
   repeat refine aa rfl ?_
   refine aJ rfl rfl rfl h0 rfl rfl rfl ?_
   repeat refine aa rfl ?_
   refine am rfl rfl rfl h1 rfl rfl ?_
   repeat refine aa rfl ?_
   refine aJ rfl rfl rfl h3 rfl rfl rfl ?_
   repeat refine aa rfl ?_
   refine aJ rfl rfl rfl h2 rfl rfl rfl ?_
   repeat refine aa rfl ?_
   exact aX rfl rfl rfl
  ·rw [if_neg (fun h => hbal h.2)]
   rw [decide_eq_false hbal] at h2
   obtain ⟨w,ba,l⟩ := b
   obtain ⟨az,at'⟩ := a
   simp only at *
   refine Ret.of_pwp layOk mixed Go.Proofs.Tryz.func37 rfl (by decide) rfl rfl ?_
   repeat refine aa rfl ?_
   refine aJ rfl rfl rfl h0 rfl rfl rfl ?_
   repeat refine aa rfl ?_
   refine am rfl rfl rfl h1 rfl rfl ?_
   repeat refine aa rfl ?_
   refine aJ rfl rfl rfl h3 rfl rfl rfl ?_
   repeat refine aa rfl ?_
   refine aJ rfl rfl rfl h2 rfl rfl rfl ?_
   repeat refine aa rfl ?_
   exact aX rfl rfl rfl
theorem j5 (b : BR) (hb : b.Ok) (r : AR) {A B : Rat} {n m : Nat} (hr : Va r A B n m) (h2 : n ≤ 90000) (h3 : m ≤ 90000) : Ret Tryz.prog .shared 38 [.agg (eB b),.agg (eA r)] (I (if fY b A B = true then 0 else 24)) := by
 have h0 := be b hb.lim
 rw [hb.chk] at h0
 have h1 := gA b hb r hr h2 h3
 cases hq : fY b A B with
 |true =>
  rw [hq] at h1
  obtain ⟨w,ba,l⟩ := b
  obtain ⟨rz,rt⟩ := r
  refine Ret.of_pwp layOk mixed Go.Proofs.Tryz.func38 rfl (by decide) rfl rfl ?_
  repeat refine aa rfl ?_
  refine aJ rfl rfl rfl h0 rfl rfl rfl ?_
  repeat refine aa rfl ?_
  refine aJ rfl rfl rfl h1 rfl rfl rfl ?_
  repeat refine aa rfl ?_
  exact aX rfl rfl rfl
 |false =>
  rw [hq] at h1
  obtain ⟨w,ba,l⟩ := b
  obtain ⟨rz,rt⟩ := r
  refine Ret.of_pwp layOk mixed Go.Proofs.Tryz.func38 rfl (by decide) rfl rfl ?_
  repeat refine aa rfl ?_
  refine aJ rfl rfl rfl h0 rfl rfl rfl ?_
  repeat refine aa rfl ?_
  refine aJ rfl rfl rfl h1 rfl rfl rfl ?_
  repeat refine aa rfl ?_
  exact aX rfl rfl rfl
theorem xh (b : BR) (hb : b.Lim) (he : bq b ≠ 0) (a : AR) (F : List RR) : Ret Tryz.prog .shared 37 [.agg (eB b),.agg (ou a F)] (I (bq b)) := by
 have h0 := be b hb
 generalize bq b = e at *
 obtain ⟨az,at'⟩ := a
 refine Ret.of_pwp layOk mixed Go.Proofs.Tryz.func37 rfl (by decide) rfl rfl ?_
 repeat refine aa rfl ?_
 refine aJ rfl rfl rfl h0 rfl rfl rfl ?_
 repeat refine aa rfl ?_
 refine ab rfl ?_ ?_<;>intro h
 ·repeat refine aa rfl ?_
  exact aX rfl rfl rfl
 ·exfalso
  simp at h
  exact he h
open Go.Proofs Go.RowKit
theorem Ghost.takeD {s : St} {k g t n sz : Nat} {T : TypeId} {rows : List (List PV)} (ho : s.own k = (g,some ⟨T,sz,rows,1⟩)) (hr : s.reg t = .als k g 0 n) (hn : n = rows.length) :
  Ghost s ((s.setOwn k (g + 1) none).putR t (.sl rows)) := by
 intro C a w hX ⟨γ,h⟩
 subst hn
 obtain ⟨h1,hle,_⟩ := h.drop hX ho
 refine ⟨γ,h1.defers,h1.size,fun r => ?_,h1.sites,h1.inj,h1.base,h1.below,h1.top,h1.kept⟩
 show Rep _ (bif Nat.beq r t then _ else (s.setOwn k (g + 1) none).reg r) _
 by_cases hrt : r = t
 ·subst hrt
  have hp := h.regs r
  rw [hr] at hp
  simp only [Nat.beq_refl,cond_true]
  refine .d ?_
  rcases h.als_at hp ho with ⟨q1,_,q3,q4⟩ | ⟨b,cap,cur,q1,q2,q3,q4,q5,q6,q7⟩
  ·have : rows = [] := (h.sites k _ (by rw [ho])).emp q1
   rw [this,q4]
   exact .sl0 _ _
  ·obtain ⟨cur',g1,g2,g3,g4,g5⟩ := h.site_at ho q1 (h.cells_sz ho q1 q3 q6)
   have hb : (ae C γ (s.setOwn k (g + 1) none) w).ok b := by
    have hbase := h.base k _ b (by rw [ho]) q1
    refine ⟨hbase.2,fun hx => ?_,fun k' c' hc' hb' => ?_⟩
    ·have := hX b hx;omega
    ·by_cases hk' : k' = k
     ·subst hk';rw [ag] at hc';cases hc'
     ·rw [ar hk'] at hc'
      exact hk' (h.inj k' k c' _ b hc' (by rw [ho]) hb' q1)
   rw [q2]
   simp only [Nat.zero_mul]
   refine .sl rows b 0 cap sz (fun i j => cur'.getD (i * sz + j) undef) hb g2 q4 g4 (fun i j row pv e1 e2 => ?_) (fun i j row pv e1 e2 => ?_)
   ·obtain ⟨u,f1,f2,_⟩ := g5 i j row pv e1 e2
    have g1 : w.heap[b]? = some (.cells cur' T (0,0)) := g1
    show w.cell? _ = _ ∧ _
    rw [aT g1,Nat.zero_add,f1]
    simp [f1,f2]
   ·obtain ⟨u,f1,_,f3⟩ := g5 i j row pv e1 e2
    have hu : cur'.getD (i * sz + j) undef = u := by simp [f1]
    simp only [hu]
    exact hle.drep f3
 ·rw [aU hrt];exact h1.regs r
def sj (l : List Int) : List RR := l.map fun z : Int => ofQ (z : Rat)
set_option maxRecDepth 20000 in
theorem n5 (l : List Int) (hl : l.length ≤ 1000000) (hz : ∀ z ∈ l,i64 z) : Ret Tryz.prog .shared 74 [.sl (l.map eN)] (.sl ((sj l).map eR)) := by
 have hml : (l.map eN).length = l.length := by simp
 refine Ret.of_pwp layOk mixed Go.Proofs.Tryz.func74 rfl (by decide) rfl rfl ?_
 ((repeat (first | refine aY ?_ | refine b7 ?_ | refine bY ?_ | refine bX ?_));refine a8 ?_)
 refine ii rfl trivial ?_
 ((repeat (first | refine aY ?_ | refine b7 ?_ | refine bY ?_ | refine bX ?_));refine a8 ?_)
 (first | refine ax (eQ 26 4 1 rfl rfl ?_) | refine ax (eP 26 4 1 rfl rfl ?_))
 repeat refine aa rfl ?_
 refine ap (fun k => k ≤ l.length) (fun k => [(0,.sl (l.map eN)),(3,.als 3 (k + 1) 0 ((sj (l.take k)).map eR).length),(4,I (k : Nat))]) (fun k => [(3,k + 1,⟨26,4,(sj (l.take k)).map eR,1⟩)]) (fun k => l.length - k) 0 (Nat.zero_le _) ⟨rfl,rfl,rfl,rfl,trivial⟩ ?_
 intro k s hk
 repeat refine aa rfl ?_
 refine ab rfl ?_ ?_<;>intro h
 ·have hlt : k < l.length := by have := of_decide_eq_true h;omega
  clear h
  obtain ⟨x,hx⟩ := aH hlt
  have hxr := fZ x (hz x (List.mem_of_getElem? hx))
  have hw := iA k
  have hwl : (sj (l.take k)).length = k := by rw [sj,List.length_map,List.length_take];omega
  have hrows : (sj (l.take (k + 1))).map eR = (sj (l.take k)).map eR ++ [eR (ofQ (x : Rat))] := by rw [cV hx,sj,List.map_append,List.map_append];rfl
  repeat refine aa rfl ?_
  refine bL rfl rfl rfl rfl rfl rfl rfl hx rfl ?_
  repeat refine aa rfl ?_
  refine am rfl rfl rfl hxr rfl rfl ?_
  repeat refine aa rfl ?_
  refine ax (bz 1 rfl rfl rfl rfl rfl rfl rfl rfl rfl rfl rfl (by repeat' constructor) rfl ?_)
  repeat refine aa rfl ?_
  refine ax (bZ 1 rfl rfl rfl rfl rfl rfl rfl rfl rfl rfl rfl (by repeat' constructor) (by intro row hr;first | (simp at hr;subst hr;rfl) | simp at hr) rfl rfl (by simp;omega) (by simp;omega) ?_)
  repeat refine aa rfl ?_
  refine ⟨k + 1,hlt,by omega,rfl,?_,congrArg I hw,?_,trivial⟩
  ·rw [hrows];rfl
  ·rw [hrows];rfl
 ·have hge : k = l.length := by have := of_decide_eq_false h;omega
  subst hge
  clear h
  rw [List.take_length]
  repeat refine aa rfl ?_
  exact eM rfl rfl rfl ⟨rfl,rfl,rfl⟩ rfl
theorem qK (x : Int) : WeakL ([I x] ++ zN ++ [.sl [[I 0]],.sl ((sj [2]).map eR)]) (eS (df x)) := WeakL.append (WeakL.append (WeakL.refl _) fS) (WeakL.refl _)
theorem w_ (x : Int) : WeakL ([I x] ++ zN ++ [.sl [[I 0],[I 10]],.sl ((sj [5,0]).map eR)]) (eS (i_ x)) := WeakL.append (WeakL.append (WeakL.refl _) fS) (WeakL.refl _)
theorem oz : ∀ z ∈ [(0 : Int),1,2,5,10,25,30,40,75,80,100],i64 z := by
 intro z hz
 simp at hz
 rcases hz with rfl | rfl | rfl | rfl | rfl | rfl | rfl | rfl | rfl | rfl | rfl <;> exact ⟨by decide,by decide⟩
theorem mD (x : Int) : Ret Tryz.prog .shared 72 [I x] (.agg (eS (df x))) := by
 have h1 := n5 [2] (by simp) (fun z hz => oz z (by simp at hz;subst hz;simp))
 refine Ret.weak (r' := .agg ([I x] ++ zN ++ [.sl [[I 0]],.sl ((sj [2]).map eR)])) ?_ (WeakL.refl _) (qK x).agg
 generalize (sj [2]).map eR = W at *
 refine Ret.of_pwp layOk mixed Go.Proofs.Tryz.func72 rfl (by decide) rfl rfl ?_
 repeat refine aa rfl ?_
 refine ax (bz 0 rfl rfl rfl rfl rfl rfl rfl rfl rfl rfl rfl (by repeat' constructor) rfl ?_)
 repeat refine aa rfl ?_
 refine bp rfl rfl (dc rfl rfl rfl rfl rfl rfl rfl rfl rfl rfl (by repeat' constructor) rfl) ?_
 repeat refine aa rfl ?_
 refine am rfl rfl rfl h1 rfl rfl ?_
 repeat refine aa rfl ?_
 exact aK rfl rfl rfl
theorem sQ (x : Int) : Ret Tryz.prog .shared 73 [I x] (.agg (eS (i_ x))) := by
 have h1 := n5 [5,0] (by simp) (fun z hz => oz z (by simp at hz;rcases hz with rfl | rfl <;> simp))
 refine Ret.weak (r' := .agg ([I x] ++ zN ++ [.sl [[I 0],[I 10]],.sl ((sj [5,0]).map eR)])) ?_ (WeakL.refl _) (w_ x).agg
 generalize (sj [5,0]).map eR = W at *
 refine Ret.of_pwp layOk mixed Go.Proofs.Tryz.func73 rfl (by decide) rfl rfl ?_
 repeat refine aa rfl ?_
 refine ax (bz 0 rfl rfl rfl rfl rfl rfl rfl rfl rfl rfl rfl (by repeat' constructor) rfl ?_)
 repeat refine aa rfl ?_
 refine bp rfl rfl (dc rfl rfl rfl rfl rfl rfl rfl rfl rfl rfl (by repeat' constructor) rfl) ?_
 repeat refine aa rfl ?_
 refine am rfl rfl rfl h1 rfl rfl ?_
 repeat refine aa rfl ?_
 exact aK rfl rfl rfl
theorem Cp : ofQ (-1 / 10) = ⟨bE (-1),bE 10⟩ := by
 rw [kZ]
 have h1 : (-1 / 10 : Rat).num = -1 := by decide +kernel
 have h2 : (-1 / 10 : Rat).den = 10 := by decide +kernel
 rw [h1,h2];rfl
set_option maxRecDepth 20000 in
theorem AX : Ret Tryz.prog .shared 75 [I (-1),I 10] (.agg (eR (ofQ (-1 / 10)))) := by
 have h1 := n6 (-1) ⟨by decide,by decide⟩
 have h2 := n6 10 ⟨by decide,by decide⟩
 rw [Cp]
 generalize bE (-1) = X at *
 generalize bE 10 = Y at *
 refine Ret.of_pwp layOk mixed Go.Proofs.Tryz.func75 rfl (by decide) rfl rfl ?_
 repeat refine aa rfl ?_
 refine ap (fun q : Nat × Nat => q.1 ≤ 10 ∧ q.2 ≤ 10 ∧ Nat.gcd q.1 q.2 = 1) (fun q => [(0,I (-1)),(1,I 10),(4,.ptr 4 1 0 0),(5,I (q.1 : Nat)),(6,I (q.2 : Nat))]) (fun _ => [(4,1,⟨26,4,[zN],2⟩)]) (fun q => q.2) (1,10) ⟨by decide,by decide,by decide⟩ ⟨rfl,rfl,rfl,rfl,rfl,rfl,trivial⟩ ?_
 rintro ⟨x,y⟩ s ⟨hx,hy,hg⟩
 simp only at hx hy hg
 dsimp only
 repeat refine aa rfl ?_
 refine ab rfl ?_ ?_<;>intro h
 ·have hy0 : 0 < y := by have := of_decide_eq_true h;omega
  clear h
  have hm := Nat.mod_lt x hy0
  repeat refine aa rfl ?_
  refine bK [] [] (by decide +kernel) ?_
  repeat refine aa rfl ?_
  refine bp rfl rfl (QOp.v rfl (show ¬ ((y : Nat) : Int) = 0 by omega)) ?_
  rw [jL]
  repeat refine aa rfl ?_
  exact ⟨(y,x % y),⟨hy,by simp only;omega,by simp only;rw [Nat.gcd_comm,← Nat.gcd_rec,Nat.gcd_comm];exact hg⟩,hm,rfl,rfl,rfl,rfl,rfl,rfl,trivial⟩
 ·have hy0 : y = 0 := by have := of_decide_eq_false h;omega
  subst hy0
  clear h
  rw [Nat.gcd_zero_right] at hg
  subst hg
  repeat refine aa rfl ?_
  refine ah 9 [25,26,27,28,29,30,31,32,33] (by decide +kernel) ?_
  repeat refine aa rfl ?_
  have q1 : IntKind.i64.wrap (Int.tdiv (-1) ((1 : Nat) : Int)) = -1 := by decide
  have q2 : IntKind.i64.wrap (Int.tdiv 10 ((1 : Nat) : Int)) = 10 := by decide
  refine bp rfl rfl (QOp.v rfl (show ¬ ((1 : Nat) : Int) = 0 by decide)) ?_
  rw [q1]
  repeat refine aa rfl ?_
  refine am rfl rfl rfl h1 rfl rfl ?_
  repeat refine aa rfl ?_
  refine bp rfl rfl (QOp.v rfl (show ¬ ((1 : Nat) : Int) = 0 by decide)) ?_
  rw [q2]
  repeat refine aa rfl ?_
  refine am rfl rfl rfl h2 rfl rfl ?_
  repeat refine aa rfl ?_
  exact aK rfl rfl rfl
theorem n4 (z t : Rat) : (bd b1).F z t = (0 + if z + t * 0 < 0 then 0 else 2 * (z + t * 0)) + if z + t * 100 < 0 then 0 else 2 * (z + t * 100) := by
 have e : (bd b1).F z t = (0 + fQ (df 0) z t) + fQ (df 100) z t := rfl
 rw [e,qJ,qJ,show ((0 : Int) : Rat) = 0 from rfl,show ((100 : Int) : Rat) = 100 from rfl]
theorem AS (z t : Rat) : (bd b1).G z t = (if z + t * 100 < 0 then 0 else 2 * (z + t * 100)) * 100 := by
 have e : (bd b1).G z t = (0 + fQ (df 0) z t * ((0 : Int) : Rat)) + fQ (df 100) z t * ((100 : Int) : Rat) := rfl
 rw [e,qJ,qJ,show ((0 : Int) : Rat) = 0 from rfl,show ((100 : Int) : Rat) = 100 from rfl]
 grind
theorem vH : (bd b1).w = 40 := rfl
theorem AP : (bd b1).A = 25 := by
 show (ofQ ((25 : Int) : Rat)).val = 25
 rw [ofQ_val];rfl
theorem AQ {z t : Rat} (h : (bd b1).Least z t) : (bd b1).E t = (if z + t * 100 < 0 then 0 else 2 * (z + t * 100)) * 100 - 40 * 25 := by
 rw [Bd.E,Bd.sg_eq h,Bd.e,AS,vH,AP]
theorem ly {z t : Rat} (h1 : (bd b1).F z t = 40) (h2 : ∀ z',z' < z → (bd b1).F z' t < 40) : (bd b1).Least z t := ⟨h1,h2⟩
theorem As : (bd b1).Least 10 0 := ly (by rw [n4];grind) (fun z' h => by rw [n4];grind)
theorem BX : (bd b1).Least 20 (-1) := ly (by rw [n4];grind) (fun z' h => by rw [n4];grind)
theorem BY : (bd b1).Least (-80) 1 := ly (by rw [n4];grind) (fun z' h => by rw [n4];grind)
theorem lA {x : Int} {z t : Rat} (h : 0 ≤ z + t * (x : Rat)) : kE (df x).k.s (yQ (df x) z t) 1 = 1 := by
 rw [kE,if_pos]
 show ((0 : Int) : Rat) ≤ RR.zero.val + (z + t * (x : Rat))
 rw [RR.zero_val,show ((0 : Int) : Rat) = 0 from rfl]
 grind
theorem tD {x : Int} {z t : Rat} (h : 0 < z + t * (x : Rat)) : o9 (df x).k.s (yQ (df x) z t) 1 = 1 := by
 rw [o9,if_pos]
 show ((0 : Int) : Rat) < RR.zero.val + (z + t * (x : Rat))
 rw [RR.zero_val,show ((0 : Int) : Rat) = 0 from rfl]
 grind
theorem th (x : Int) : aO (df x).k.m 1 = 2 := by
 rw [aO]
 show (ofQ ((2 : Int) : Rat)).val = 2
 rw [ofQ_val];rfl
theorem tC {i : Nat} (hi : i < 2) : (bd b1).k ((bd b1).pR 10 0) i = 2 := by
 rcases i with _ | _ | i
 ·show aO (df 0).k.m (kE (df 0).k.s (yQ (df 0) 10 0) 1) = 2
  rw [lA (by grind),th]
 ·show aO (df 100).k.m (kE (df 100).k.s (yQ (df 100) 10 0) 1) = 2
  rw [lA (by grind),th]
 ·omega
theorem vF : (bd b1).guess 10 0 = some (15,-1 / 10) := by
 have kh : (bd b1).Kh ((bd b1).pR 10 0) = 4 := by
  show 0 + (bd b1).k ((bd b1).pR 10 0) 0 + (bd b1).k ((bd b1).pR 10 0) 1 = 4
  rw [tC (by decide),tC (by decide)];grind
 have kc : (bd b1).Kc ((bd b1).pR 10 0) = 200 := by
  show 0 + (bd b1).k ((bd b1).pR 10 0) 0 * ((0 : Int) : Rat) + (bd b1).k ((bd b1).pR 10 0) 1 * ((100 : Int) : Rat) = 200
  rw [tC (by decide),tC (by decide),show ((0 : Int) : Rat) = 0 from rfl,show ((100 : Int) : Rat) = 100 from rfl];grind
 have kp : (bd b1).Kp ((bd b1).pR 10 0) = 20000 := by
  show 0 + (bd b1).k ((bd b1).pR 10 0) 0 * ((0 : Int) : Rat) * ((0 : Int) : Rat) + (bd b1).k ((bd b1).pR 10 0) 1 * ((100 : Int) : Rat) * ((100 : Int) : Rat) = 20000
  rw [tC (by decide),tC (by decide),show ((0 : Int) : Rat) = 0 from rfl,show ((100 : Int) : Rat) = 100 from rfl];grind
 have hF : (bd b1).w - (bd b1).F 10 0 = 0 := by rw [vH,n4];grind
 have hE : -((bd b1).e 10 0) = -1000 := by rw [Bd.e,AS,vH,AP];grind
 have hn : Bd.newt 4 200 20000 0 (-1000) = some (5,-1 / 10) := by
  rw [Bd.newt,if_neg (by decide +kernel)]
  congr 2 <;> decide +kernel
 have hb : (bd b1).F (10 + 5) (0 + -1 / 10) = (bd b1).w ∧ (bd b1).G (10 + 5) (0 + -1 / 10) = (bd b1).w * (bd b1).A := by
  rw [n4,AS,vH,AP]
  constructor <;> grind
 rw [Bd.guess,Bd.tryP,kh,kc,kp,hF,hE,hn]
 dsimp only
 rw [if_pos hb]
 simp only [Option.some.injEq,Prod.mk.injEq]
 constructor <;> grind
theorem BV : (bd b1).eqQ 1 = some (15,-1 / 10) := by
 have em : (bd b1).E (-1) = -1000 := by rw [AQ BX];grind
 have ep : (bd b1).E 1 = 3000 := by rw [AQ BY];grind
 have e0 : (bd b1).E 0 = 1000 := by rw [AQ As];grind
 have d1 : (bd b1).dbl (-1) 1 1 = some 1 := by
  rw [Bd.dbl,if_neg]
  rw [show (-1 : Rat) * 1 = -1 by grind,em];grind
 have d2 : (bd b1).dbl 1 1 1 = some 1 := by
  rw [Bd.dbl,if_neg]
  rw [show (1 : Rat) * 1 = 1 by grind,ep];grind
 have a0 : (bd b1).at1 0 = some (15,-1 / 10) := by
  rw [Bd.at1,if_neg (by rw [e0];grind),Bd.sg_eq As,vF]
 rw [Bd.eqQ,d1,d2]
 dsimp only
 rw [Bd.fst3,a0]
theorem BW (t : Rat) : ∃ z,(bd b1).w ≤ (bd b1).F z t := ⟨20,by rw [n4,vH];grind⟩
theorem pl (t : Rat) : (kK b1.l t).length ≤ 40 := by
 rw [kK]
 show ((kM t (df 0)) ++ ((kM t (df 100)) ++ [])).length ≤ 40
 rw [kM,kM]
 simp [df]
theorem tE : bw b1.l = [0,100] := by
 rw [bw]
 have : cf (b1.l.map (·.x)) = [0,100] := List.mergeSort_of_pairwise (by decide)
 rw [this]
 decide
theorem vG {x : Int} {A B : Rat} (hx : x = 0 ∨ x = 100) (h : A + B * (x : Rat) ≠ 0) : qX 15 (-1 / 10) A B (df x) = false := by
 have hy : 0 < (15 : Rat) + -1 / 10 * (x : Rat) := by
  rcases hx with rfl | rfl
  ·rw [show ((0 : Int) : Rat) = 0 from rfl];grind
  ·rw [show ((100 : Int) : Rat) = 100 from rfl];grind
 have hr : rV (df x) 15 (-1 / 10) = 2 := by
  show aO (df x).k.m (kE (df x).k.s (yQ (df x) 15 (-1 / 10)) 1) = 2
  rw [lA (by grind),th]
 have hl : lV (df x) 15 (-1 / 10) = 2 := by
  show aO (df x).k.m (o9 (df x).k.s (yQ (df x) 15 (-1 / 10)) 1) = 2
  rw [tD hy,th]
 rw [qX,decide_eq_false]
 intro hn
 apply hn
 rw [hr,hl]
 rcases Classical.em (0 < A + B * (x : Rat)) with g | g
 ·exact .inl ⟨g,by grind⟩
 ·exact .inr ⟨by show A + B * (x : Rat) < 0;grind,by grind⟩
theorem yL {A B : Rat} (h : A ≠ 0 ∨ A + B * 100 ≠ 0) : fW b1.l 15 (-1 / 10) A B = false := by
 show (qX 15 (-1 / 10) A B (df 0) && (qX 15 (-1 / 10) A B (df 100) && true)) = false
 rcases h with h | h
 ·rw [vG (.inl rfl) (by rw [show ((0 : Int) : Rat) = 0 from rfl];grind),Bool.false_and]
 ·rw [vG (x := 100) (.inr rfl) (by rw [show ((100 : Int) : Rat) = 100 from rfl];exact h),Bool.false_and,Bool.and_false]
theorem tF : dH b1 15 (-1 / 10) = false := by
 rw [dH,List.any_eq_false]
 intro d hd
 have key : ∀ A B : Int,(A ≠ 0 ∨ A + B * 100 ≠ 0) → ¬ fW b1.l 15 (-1 / 10) (ofQ (A : Rat)).val (ofQ (B : Rat)).val = true := by
  intro A B h
  rw [ofQ_val,ofQ_val,yL]
  ·decide
  ·rcases h with h | h
   ·left;exact_mod_cast h
   ·right
    have : (A : Rat) + (B : Rat) * 100 = ((A + B * 100 : Int) : Rat) := by push_cast;rfl
    rw [this];exact_mod_cast h
 rw [dM,bR,tE] at hd
 simp at hd
 rcases hd with rfl | rfl | rfl | rfl | rfl | rfl
 ·exact key (-0) 1 (by decide)
 ·exact key (-100) 1 (by decide)
 ·exact key 0 (-1) (by decide)
 ·exact key 100 (-1) (by decide)
 ·exact key 1 0 (by decide)
 ·exact key (-1) 0 (by decide)
theorem AU : Ret Tryz.prog .shared 41 [.agg (eB b1)] (.tup [.agg (ou ⟨ofQ 15,ofQ (-1 / 10)⟩ [ofQ 30,ofQ 10]),.agg (zN ++ zN),I 0]) := by
 have hn := tH lz (AT.2 ⟨rfl,rfl⟩)
 have h93 := eH b1 lz
 rw [dD,if_neg (by rw [hn.1];decide),List.find?_eq_none.2 (fun r hr => by rw [hn.2 r hr];decide)] at h93
 have h120 := nf b1 lz pl BW (N := 1) (by decide) BV
 have va : Va ⟨ofQ 15,ofQ (-1 / 10)⟩ 15 (-1 / 10) 4 8 := ⟨Vq.ofQ (h := ⟨pI 15 ⟨by decide,by decide⟩⟩),Vq.ofQ (h := @HQ.div _ _ 4 4 (@HQ.neg _ _ HQ.one) ⟨pI 10 ⟨by decide,by decide⟩⟩)⟩
 have h121 := np b1 lz ⟨ofQ 15,ofQ (-1 / 10)⟩ (ha := va) (by decide)
 rw [tF] at h121
 have h23 := dp b1.l lz.lim.l lz.chkL ⟨ofQ 15,ofQ (-1 / 10)⟩ (ha := va) (by decide)
 rw [tB] at h23
 exact nP b1 lz.lim vD h93 _ _ h120 h121 h23
theorem AW : Ret Tryz.prog .shared 41 [.agg (eB b2)] (.tup [.agg zS,.agg (eA (ja 0)),I 13]) := by
 have h93 := eH b2 At
 rw [q8] at h93
 exact i7 b2 At.lim vJ _ 13 (by decide) h93
set_option maxRecDepth 20000 in
theorem jU : Ret Tryz.prog .shared 15 [] (.bool true) := by
 have w25 := fZ 25 ⟨by decide,by decide⟩
 have w75 := fZ 75 ⟨by decide,by decide⟩
 have w0 := fZ 0 ⟨by decide,by decide⟩
 have w1 := fZ 1 ⟨by decide,by decide⟩
 have s0 := mD 0
 have s1 := mD 100
 have p0 := sQ 0
 have p1 := sQ 100
 have hs := AU
 have hp := AW
 have hws := n5 [30,10] (by simp) (fun z hz => oz z (by simp at hz;rcases hz with rfl | rfl <;> simp))
 have hq := AX
 have e1 := i5 [ofQ 30,ofQ 10] (by simp) (fun x hx => by
  simp at hx
  rcases hx with rfl | rfl
  ·have := (vI (z := 30) ⟨by decide,by decide⟩).sz
   exact ⟨Nat.le_trans this.1 (by decide),Nat.le_trans this.2 (by decide)⟩
  ·have := (vI (z := 10) ⟨by decide,by decide⟩).sz
   exact ⟨Nat.le_trans this.1 (by decide),Nat.le_trans this.2 (by decide)⟩)
 have e2 := mu (p := -1 / 10) (n := 8) (@HQ.div _ _ 4 4 (@HQ.neg _ _ HQ.one) ⟨pI 10 ⟨by decide,by decide⟩⟩) (by decide)
 have e3 := mu (p := ((0 : Int) : Rat)) ⟨pI 0 ⟨by decide,by decide⟩⟩ (by decide)
 have e4 := mu (p := ((1 : Int) : Rat)) ⟨pI 1 ⟨by decide,by decide⟩⟩ (by decide)
 have hb1 : eB b1 = I 40 :: (eR (ofQ ((25 : Int) : Rat)) ++ [.sl [eS (df 0),eS (df 100)]]) := rfl
 have hb2 : eB b2 = I 80 :: (eR (ofQ ((75 : Int) : Rat)) ++ [.sl [eS (i_ 0),eS (i_ 100)]]) := rfl
 rw [hb1] at hs
 rw [hb2] at hp
 rw [show sj [30,10] = [ofQ 30,ofQ 10] from rfl] at hws
 rw [show ja 0 = ⟨ofQ ((0 : Int) : Rat),ofQ ((1 : Int) : Rat)⟩ from rfl] at hp
 have hzA : eA zA = eR RR.zero ++ eR RR.zero := rfl
 clear hb1 hb2
 generalize ofQ ((25 : Int) : Rat) = W25 at *
 generalize ofQ ((75 : Int) : Rat) = W75 at *
 generalize ofQ ((0 : Int) : Rat) = W0 at *
 generalize ofQ ((1 : Int) : Rat) = W1 at *
 generalize ofQ (-1 / 10 : Rat) = WT at *
 generalize ofQ (15 : Rat) = W15 at *
 generalize [ofQ (30 : Rat),ofQ (10 : Rat)] = WF at *
 refine Ret.of_pwp layOk mixed Go.Proofs.Tryz.func15 rfl (by decide) rfl rfl ?_
 ((repeat ((fail_if_success (with_reducible refine aP 1 ?_));refine cN rfl ?_));refine ay 4 ?_)
 refine am rfl rfl rfl w25 rfl rfl ?_
 refine am rfl rfl rfl s0 rfl rfl ?_
 refine am rfl rfl rfl s1 rfl rfl ?_
 refine ax (bz 1 rfl rfl rfl rfl rfl rfl rfl rfl rfl rfl rfl (by repeat' constructor) rfl ?_)
 refine aY ?_
 refine aL rfl (cE (Ghost.takeD (k := 11) (t := 11) rfl rfl rfl) (zp rfl ⟨trivial,trivial,trivial⟩ ?_))
 refine aE ?_
 refine am rfl rfl rfl hs rfl rfl ?_
 ((repeat ((fail_if_success (with_reducible refine aP 2 ?_));refine cN rfl ?_));refine ay 4 ?_)
 refine am rfl rfl rfl w75 rfl rfl ?_
 refine am rfl rfl rfl p0 rfl rfl ?_
 refine am rfl rfl rfl p1 rfl rfl ?_
 refine ax (bz 1 rfl rfl rfl rfl rfl rfl rfl rfl rfl rfl rfl (by repeat' constructor) rfl ?_)
 refine aY ?_
 refine aL rfl (cE (Ghost.takeD (k := 21) (t := 21) rfl rfl rfl) (zp rfl ⟨trivial,trivial,trivial⟩ ?_))
 refine aE ?_
 refine am rfl rfl rfl hp rfl rfl ?_
 repeat refine aa rfl ?_
 refine ah 32 [27,28,29,30,31,32,33,34,35,36,37,38,39,40,41,42,43,44,45,46,47,48,49,50,51,52,53,54,55,56,57,58] (by decide +kernel) ?_
 repeat refine aa rfl ?_
 refine bp rfl rfl (dc rfl rfl rfl rfl rfl rfl rfl rfl rfl rfl (by repeat' constructor) rfl) ?_
 repeat refine aa rfl ?_
 refine am rfl rfl rfl hws rfl rfl ?_
 repeat refine aa rfl ?_
 refine aJ rfl rfl rfl e1 rfl rfl rfl ?_
 repeat refine aa rfl ?_
 refine am rfl rfl rfl hq rfl rfl ?_
 repeat refine aa rfl ?_
 refine aJ rfl rfl rfl e2 rfl rfl rfl ?_
 repeat refine aa rfl ?_
 refine am rfl rfl rfl w0 rfl rfl ?_
 repeat refine aa rfl ?_
 refine aJ rfl rfl rfl e3 rfl rfl rfl ?_
 repeat refine aa rfl ?_
 refine am rfl rfl rfl w1 rfl rfl ?_
 repeat refine aa rfl ?_
 refine aJ rfl rfl rfl e4 rfl rfl rfl ?_
 repeat refine aa rfl ?_
 exact aI rfl rfl rfl
end Go.Pv
namespace Go.Pv
open Go.RowKit Go.ChangeShapes Go.WideShapes Go.ChangeAt
section
variable {H : Type} {enc : TypeId × Value → H} {P : Program} {L : Lay} {w : World} {sp : Nat → Bool} {held : Bool}
def argW (L : Lay) (T : TypeId) (c : PV) : Prop := match L T with
 |some r => bif r.sh.agg then ∃ cs,c = .agg cs ∧ iz L 12 T cs else iz L 12 T [c]
 |none => False
theorem vC (hL : eY P L) {base : Nat} {T : TypeId} {v : Value} {d : DataW H} {ps : List MemPlace} (hp : ee L 12 T = true) (h : DataW.Trod enc P w 0 sp held T v d ps) (hok : Value.okWide P w .any base T v) : ∃ c,DRep w (fun b => b < w.heap.size) c v ∧ argW L T c := by
 obtain ⟨fuel,h⟩ := h
 obtain ⟨pvs,h1,h2⟩ := mG hL 12 T _ fuel _ hp h
 have hp' := hp
 simp only [ee] at hp
 split at hp
 ·rename_i r hr
  have hfit := hL T r hr
  have leaf : r.sh.agg = false → (∃ c,pvs = [c]) → (v.cells.toList.length = 1 → v.cells = #[v]) → ∃ c,DRep w (fun b => b < w.heap.size) c v ∧ argW L T c := by
   rintro ha ⟨c,rfl⟩ hv
   have hc := hv (by rw [← h1.1];rfl)
   have hd := h1.2 0 c v rfl (by rw [hc];rfl)
   refine ⟨c,hd.1,?_⟩
   unfold argW
   rw [hr]
   simp only [ha,cond_false]
   exact h2
  have nagg : (∀ cs,v ≠ .agg cs) → v.cells = #[v] := by
   intro h
   cases v <;> first | rfl | exact absurd rfl (h _)
  have hty : ∃ r',L T = some r' ∧ _ := h2
  obtain ⟨r',hr',hty⟩ := hty
  rw [hr] at hr'
  have hr' := Option.some.inj hr'
  subst hr'
  split at hp
  ·rename_i hs
   rw [hs] at hty
   obtain ⟨b,rfl⟩ := hty
   obtain ⟨b',rfl⟩ : ∃ b',v = .bool b' := by
    have := okWide_bool (mI hfit hs) hok;exact this
   exact leaf (by rw [hs];rfl) ⟨_,rfl⟩ (fun _ => rfl)
  ·rename_i k hs
   rw [hs] at hty
   obtain ⟨m,rfl,_⟩ := hty
   obtain ⟨m',rfl⟩ := okWide_int (jN hfit hs) hok
   exact leaf (by rw [hs];rfl) ⟨_,rfl⟩ (fun _ => rfl)
  ·rename_i hs
   rw [hs] at hty
   obtain ⟨s,rfl,_⟩ := hty
   obtain ⟨s',rfl⟩ := okWide_string (ic hfit hs) hok
   exact leaf (by rw [hs];rfl) ⟨_,rfl⟩ (fun _ => rfl)
  ·rename_i e hs
   rw [hs] at hty
   obtain ⟨rows,rfl,_⟩ := hty
   obtain ⟨a,l,c,rfl⟩ := okWide_slice (eo hfit hs) hok
   exact leaf (by rw [hs];rfl) ⟨_,rfl⟩ (fun _ => rfl)
  ·rename_i fs hs
   obtain ⟨fs',hu,_⟩ := mJ hfit hs
   obtain ⟨cs,rfl,_⟩ := okWide_struct hu hok
   refine ⟨.agg pvs,?_,?_⟩
   ·have := DRep.agg (w := w) (ok := fun b => b < w.heap.size) pvs cs.toList h1.1 (fun i c v e1 e2 => (h1.2 i c v e1 e2).1)
    simpa using this
   ·unfold argW
    rw [hr]
    simp only [hs,Sh.agg,cond_true]
    exact ⟨pvs,rfl,h2⟩
  ·cases hp
 ·cases hp
theorem mW (hL : eY P L) {base : Nat} : ∀ (ts : List TypeId) (vs : List Value) (ds : List (DataW H)) (ps : List MemPlace),ts.all (ee L 12) = true → DataW.TrodAll enc P w 0 sp held ts vs ds ps →
  (∀ (j : Nat) t v,ts[j]? = some t → vs[j]? = some v → Value.okWide P w .any base t v) →
  ∃ pargs : List PV,pargs.length = vs.length ∧ ts.length = vs.length ∧ ds.length = vs.length ∧ (∀ (i : Nat) (c : PV) (v : Value),pargs[i]? = some c → vs[i]? = some v → DRep w (fun b => b < w.heap.size) c v) ∧ ∀ (i : Nat) t c,ts[i]? = some t → pargs[i]? = some c → argW L t c
 |[],vs,ds,ps,_,h,_ => by
  obtain ⟨rfl,rfl,_⟩ := trodAll_nil h
  exact ⟨[],rfl,rfl,rfl,fun i c v e => by simp at e,fun i t c e => by simp at e⟩
 |t :: ts,vs,ds,ps,hp,h,hok => by
  obtain ⟨v,vs',d,ds',p,q,rfl,rfl,rfl,h1,h2⟩ := trodAll_cons h
  simp only [List.all_cons,Bool.and_eq_true] at hp
  obtain ⟨c,g1,g2⟩ := vC hL hp.1 h1 (hok 0 t v rfl rfl)
  obtain ⟨pargs,e1,e2,e3,e4,e5⟩ := mW hL ts vs' ds' q hp.2 h2 (fun j t v a b => hok (j + 1) t v (by simpa using a) (by simpa using b))
  refine ⟨c :: pargs,by simp [e1],by simp [e2],by simp [e3],fun i c' v' a b => ?_,fun i t' c' a b => ?_⟩
  ·cases i with
   |zero => simp at a b;subst a;subst b;exact g1
   |succ i => exact e4 i c' v' (by simpa using a) (by simpa using b)
  ·cases i with
   |zero => simp at a b;subst a;subst b;exact g2
   |succ i => exact e5 i t' c' (by simpa using a) (by simpa using b)
theorem law_stepW [Globs] (hL : eY P L) (hl : laidOutB P = true) {f : FuncId} {fn : Func} {s : ChangeSpec} {ts : List TypeId} {T : TypeId} (hvars : s.vars = []) (hts : fn.params.toList = ts) (hplain : ts.all (ee L 12) = true)
  (hread : ts.all (fun t => P.readableRec t && decide (t < P.types.size)) = true) (hres : fn.resultTypes = #[T]) (hT : P.underlying T = some .bool)
  (hspec : ∀ ds : List (DataW H),ds.length = ts.length → (s.fn H ds).results = [.lit (.bool true)] ∧ (s.fn H ds).args = ds ∧ (s.fn H ds).vars = [])
  (law : ∀ pargs : List PV,pargs.length = ts.length → (∀ (i : Nat) t c,ts[i]? = some t → pargs[i]? = some c → argW L t c) → Ret P .shared f pargs (.bool true))
  {W : World} {base : Nat} {args : Array Value} {ds gs : List (DataW H)} {before : List MemPlace} (hval : ∀ (j : Nat) t v,fn.params[j]? = some t → args[j]? = some v → Value.okWide P W .any base t v)
  (hglob : Globs.glob W) (hW : DataW.Whole enc P fn.params.toList s.vars false W args.toList ds gs before) :
  Calls P f args W fun e W' => ∃ v,e = .returned v ∧ s.post enc P fn false true false false W args v W' := by
 have hW' := hW
 obtain ⟨p,q,hA,hV,hpq,hfz,hnd⟩ := hW
 rw [hvars] at hV
 obtain ⟨rfl,rfl⟩ := trodVars_none hV
 rw [hts] at hA
 obtain ⟨pargs,e1,e2,e3,e4,e5⟩ := mW hL (base := base) ts _ _ _ hplain hA (fun j t v a b => hval j t v (by rw [← hts] at a;simpa using a) (by simpa using b))
 have hret := law pargs (by omega) e5
 have hcall := hret.2 W (fun _ => False) args.toList hglob (fun b hb => hb.elim) (by omega) (fun i c v a b => (e4 i c v a b).weaken fun b hb => ⟨hb,fun h => h⟩)
 have hargs : args.toList.toArray = args := by simp
 rw [hargs] at hcall
 refine hcall.mono ?_
 rintro e W' ⟨v,rfl,hb,hd⟩
 refine ⟨v,rfl,?_⟩
 have hv : v = .bool true := by cases hd;rfl
 subst hv
 have hlt : ∀ x ∈ p,x.block < W.heap.size := fun x hx => by
  have := hW'.lt x (by rw [hpq];simp [hx])
  simpa using this
 obtain ⟨s1,s2,s3⟩ := hspec ds (by omega)
 have hgs : ds ++ ([] : List (DataW H)) = ds := List.append_nil ds
 refine ⟨ds,[],before,[],p,[],hW',?_,?_,?_,World.keptBut_mono (fun x hx => hx.elim) (hb.frame (fun _ => False)),fun h => by cases h⟩
 ·rw [hgs,s1,hres]
  exact trodAll_mk1 (shut_bool hT true)
 ·rw [hgs,s2,hts]
  exact iy hl hb ts _ _ _ (fun t ht => by
   have := List.all_eq_true.1 hread t ht
   simpa using this) hA hlt
 ·rw [hgs,s3,hvars]
  exact rfl
end
end Go.Pv
set_option maxHeartbeats 2000000
namespace Go.Pv
attribute [local irreducible] PWP POps PQuiet PSem au aq aj ai
open Go.Proofs
theorem fp {α : Type} {f : α → List PV} {p : α → Prop} : ∀ {rows : List (List PV)},(∀ row ∈ rows,∃ x,row = f x ∧ p x) → ∃ l : List α,rows = l.map f ∧ ∀ x ∈ l,p x
 |[],_ => ⟨[],rfl,fun x h => by cases h⟩
 |row :: rows,h => by
  obtain ⟨x,rfl,hx⟩ := h row (by simp)
  obtain ⟨l,rfl,hl⟩ := fp (rows := rows) fun r hr => h r (by simp [hr])
  exact ⟨x :: l,rfl,fun y hy => by
   rcases List.mem_cons.1 hy with rfl | hy
   ·exact hx
   ·exact hl y hy⟩
theorem wQ {n : Nat} (h : n ≤ maxLen) : n ≤ 9223372036854775807 := by
 have e : maxLen = 9223372036854775807 := by decide
 omega
theorem vX {n : Nat} {cs : List PV} (h : iz lay.get (n + 2) 22 cs) : ∃ l : List UInt16,cs = [.sl (l.map eU)] := by
 obtain ⟨rows,rfl,hr⟩ := Bu h rfl
 obtain ⟨l,rfl,-⟩ := fp (f := eU) (p := fun _ => True) fun row hrow => by
  obtain ⟨m,rfl,h1,h2⟩ := qR (hr row hrow) rfl
  have h1 : (0 : Int) ≤ m := h1
  have h2 : m ≤ (65535 : Int) := h2
  refine ⟨UInt16.ofNat m.toNat,?_,trivial⟩
  rw [eU,aN]
  congr 2
  omega
 exact ⟨l,rfl⟩
theorem Au {n : Nat} {cs : List PV} (h : iz lay.get (n + 3) 24 cs) : ∃ a : RI,cs = eI a := by
 obtain ⟨parts,rfl,hl,hp⟩ := gL h rfl
 match parts,hl,hp with
 |[p0,p1],_,hp =>
  obtain ⟨b,rfl⟩ := yA (hp 0 _ p0 rfl rfl) rfl
  obtain ⟨l,rfl⟩ := vX (hp 1 _ p1 rfl rfl)
  exact ⟨⟨b,l⟩,rfl⟩
theorem lG {n : Nat} {cs : List PV} (h : iz lay.get (n + 4) 26 cs) : ∃ a : RR,cs = eR a := by
 obtain ⟨parts,rfl,hl,hp⟩ := gL h rfl
 match parts,hl,hp with
 |[p0,p1],_,hp =>
  obtain ⟨a,rfl⟩ := Au (hp 0 _ p0 rfl rfl)
  obtain ⟨b,rfl⟩ := Au (hp 1 _ p1 rfl rfl)
  exact ⟨⟨a,b⟩,rfl⟩
theorem od {n : Nat} {cs : List PV} (h : iz lay.get (n + 1) 3 cs) : ∃ z : Int,cs = eN z ∧ i64 z := by
 obtain ⟨m,rfl,h1,h2⟩ := qR h rfl
 exact ⟨m,rfl,h1,h2⟩
theorem vW {n : Nat} {cs : List PV} (h : iz lay.get (n + 2) 86 cs) : ∃ l : List Int,cs = [.sl (l.map eN)] ∧ l.length ≤ 9223372036854775807 ∧ ∀ z ∈ l,i64 z := by
 obtain ⟨rows,rfl,hlen,hr⟩ := lj h rfl
 obtain ⟨l,rfl,hz⟩ := fp (f := eN) (p := i64) fun row hrow => od (hr row hrow)
 exact ⟨l,rfl,by rw [List.length_map] at hlen;exact wQ hlen,hz⟩
theorem vV {n : Nat} {cs : List PV} (h : iz lay.get (n + 5) 42 cs) : ∃ l : List RR,cs = [.sl (l.map eR)] ∧ l.length ≤ 9223372036854775807 := by
 obtain ⟨rows,rfl,hlen,hr⟩ := lj h rfl
 obtain ⟨l,rfl,-⟩ := fp (f := eR) (p := fun _ => True) fun row hrow => by
  obtain ⟨a,rfl⟩ := lG (hr row hrow)
  exact ⟨a,rfl,trivial⟩
 exact ⟨l,rfl,by rw [List.length_map] at hlen;exact wQ hlen⟩
theorem B5 {n : Nat} {cs : List PV} (h : iz lay.get (n + 6) 120 cs) : ∃ c : CR,cs = eC c ∧ c.S.length ≤ 9223372036854775807 ∧ c.M.length ≤ 9223372036854775807 ∧ ∀ z ∈ c.S,i64 z := by
 obtain ⟨parts,rfl,hl,hp⟩ := gL h rfl
 match parts,hl,hp with
 |[p0,p1],_,hp =>
  obtain ⟨S,rfl,h1,h2⟩ := vW (hp 0 _ p0 rfl rfl)
  obtain ⟨M,rfl,h3⟩ := vV (hp 1 _ p1 rfl rfl)
  exact ⟨⟨S,M⟩,rfl,h1,h3,h2⟩
theorem B7 {n : Nat} {cs : List PV} (h : iz lay.get (n + 7) 122 cs) : ∃ s : SR,cs = eS s ∧ (vi s ∧ s.k.S.length ≤ 9223372036854775807 ∧ s.k.M.length ≤ 9223372036854775807) := by
 obtain ⟨parts,rfl,hl,hp⟩ := gL h rfl
 match parts,hl,hp with
 |[p0,p1,p2],_,hp =>
  obtain ⟨x,rfl,hx⟩ := od (hp 0 _ p0 rfl rfl)
  obtain ⟨c,rfl⟩ := lG (hp 1 _ p1 rfl rfl)
  obtain ⟨k,rfl,h1,h2,h3⟩ := B5 (hp 2 _ p2 rfl rfl)
  exact ⟨⟨x,c,k⟩,by simp [eS,eN],⟨hx,h3⟩,h1,h2⟩
theorem B6 {n : Nat} {cs : List PV} (h : iz lay.get (n + 8) 27 cs) : ∃ l : List SR,cs = [.sl (l.map eS)] ∧ yK l ∧ o_ l := by
 obtain ⟨rows,rfl,hlen,hr⟩ := lj h rfl
 obtain ⟨l,rfl,hz⟩ := fp (f := eS) (p := fun s => vi s ∧ s.k.S.length ≤ 9223372036854775807 ∧ s.k.M.length ≤ 9223372036854775807) fun row hrow => B7 (hr row hrow)
 exact ⟨l,rfl,⟨by rw [List.length_map] at hlen;exact wQ hlen,fun s hs => (hz s hs).2⟩,fun s hs => (hz s hs).1⟩
structure ArgB (b : BR) : Prop where
 w : i64 b.w
 len : yK b.l
 data : o_ b.l
theorem dec_B {c : PV} (h : argW lay.get 29 c) : ∃ b : BR,c = .agg (eB b) ∧ ArgB b := by
 obtain ⟨cs,rfl,h⟩ : ∃ cs,c = .agg cs ∧ iz lay.get 12 29 cs := h
 obtain ⟨parts,rfl,hl,hp⟩ := gL h rfl
 match parts,hl,hp with
 |[p0,p1,p2],_,hp =>
  obtain ⟨w,rfl,hw⟩ := od (hp 0 _ p0 rfl rfl)
  obtain ⟨a,rfl⟩ := lG (hp 1 _ p1 rfl rfl)
  obtain ⟨l,rfl,h1,h2⟩ := B6 (hp 2 _ p2 rfl rfl)
  exact ⟨⟨w,a,l⟩,by simp [eB,eN],hw,h1,h2⟩
theorem vU {n : Nat} {cs : List PV} (h : iz lay.get (n + 5) 40 cs) : ∃ a : AR,cs = eA a := by
 obtain ⟨parts,rfl,hl,hp⟩ := gL h rfl
 match parts,hl,hp with
 |[p0,p1],_,hp =>
  obtain ⟨z,rfl⟩ := lG (hp 0 _ p0 rfl rfl)
  obtain ⟨t,rfl⟩ := lG (hp 1 _ p1 rfl rfl)
  exact ⟨⟨z,t⟩,by simp [eA]⟩
theorem dec_A {c : PV} (h : argW lay.get 40 c) : ∃ a : AR,c = .agg (eA a) := by
 obtain ⟨cs,rfl,h⟩ : ∃ cs,c = .agg cs ∧ iz lay.get 12 40 cs := h
 obtain ⟨a,rfl⟩ := vU h
 exact ⟨a,rfl⟩
theorem dec_F {c : PV} (h : argW lay.get 62 c) : ∃ a : AR,c = .agg (eA a) := by
 obtain ⟨cs,rfl,h⟩ : ∃ cs,c = .agg cs ∧ iz lay.get 12 62 cs := h
 obtain ⟨parts,rfl,hl,hp⟩ := gL h rfl
 match parts,hl,hp with
 |[p0,p1],_,hp =>
  obtain ⟨z,rfl⟩ := lG (hp 0 _ p0 rfl rfl)
  obtain ⟨t,rfl⟩ := lG (hp 1 _ p1 rfl rfl)
  exact ⟨⟨z,t⟩,by simp [eA]⟩
theorem dec_Sol {c : PV} (h : argW lay.get 60 c) : ∃ (a : AR) (F : List RR),c = .agg (ou a F) ∧ F.length ≤ 9223372036854775807 := by
 obtain ⟨cs,rfl,h⟩ : ∃ cs,c = .agg cs ∧ iz lay.get 12 60 cs := h
 obtain ⟨parts,rfl,hl,hp⟩ := gL h rfl
 match parts,hl,hp with
 |[p0,p1],_,hp =>
  obtain ⟨a,rfl⟩ := vU (hp 0 _ p0 rfl rfl)
  obtain ⟨F,rfl,h1⟩ := vV (hp 1 _ p1 rfl rfl)
  exact ⟨a,F,by simp [ou],h1⟩
theorem pn {a : AR} (h : jV a = true) : Va a a.z.val a.t.val 4 4 := by
 rw [jV,Bool.and_eq_true,fM,fM] at h
 exact ⟨Vq.raw h.1.1 h.1.2,Vq.raw h.2.1 h.2.2⟩
theorem ud {b : BR} (hb : ArgB b) (h : io b = true) : b.Lim ∧ (bq b = 0 → b.Ok ∧ (bd b).Sz) := by
 rw [io,Bool.and_eq_true,fM,s_] at h
 exact ⟨⟨hb.w,h.2.mono (by decide),mx hb.data h.1 (by decide) (by decide)⟩,fun hc => ⟨xW hb.w hb.data h.2 h.1 (by decide) (by decide) hc,xX hb.w hb.data h.2 h.1 (by decide) (by decide) hc⟩⟩
theorem xU {F : List RR} {n : Nat} (h : (F.all fun x => kf x n) = true) : BB F n := fun x hx => by
 have := List.all_eq_true.1 h x hx
 exact fM.1 this
theorem Cm {r : AR} {n m : Nat} (h1 : kf r.z n = true) (h2 : kf r.t m = true) : Va r r.z.val r.t.val n m := ⟨Vq.raw (fM.1 h1).1 (fM.1 h1).2,Vq.raw (fM.1 h2).1 (fM.1 h2).2⟩
theorem pG {α β : Type} (f : α → List β) (n : Nat) : ∀ (l : List α),(∀ x ∈ l,(f x).length ≤ n) → (l.flatMap f).length ≤ l.length * n
 |[],_ => by simp
 |x :: l,h => by
  have h1 := h x (by simp)
  have h2 := pG f n l fun y hy => h y (by simp [hy])
  rw [List.flatMap_cons,List.length_append,List.length_cons,Nat.add_mul]
  omega
theorem tI {l : List SR} (h : l.length ≤ 10) (h4 : ∀ s ∈ l,s.k.S.length ≤ 4) (t : Rat) : (kK l t).length ≤ 40 := by
 have h1 := pG (kM t) 4 l fun s hs => by rw [n8];exact h4 s hs
 rw [kK]
 omega
theorem ry {b : BR} (h : io b = true) (t : Rat) : (kK b.l t).length ≤ 40 := by
 rw [io,Bool.and_eq_true,s_] at h
 exact tI h.1.1 (fun s hs => (h.1.2 s hs).1) t
theorem j0 {b : BR} (hb : ArgB b) (h : io b = true) : b.Good := by
 obtain ⟨h1,h2⟩ := ud hb h
 exact ⟨h1,fun h0 => ⟨(h2 h0).1,(h2 h0).2,ry h⟩⟩
def Ao (b : BR) : Prop := ∀ z t,¬ (bd b).Bal z t
theorem nF {b : BR} (hb : b.Ok) {r : AR} (h : dh b r = true) : Ao b := fun z t hz => by
 have := jc hb hz r.z.val r.t.val
 rw [dh] at h
 rw [h] at this
 cases this
inductive Said (b : BR) : Prop
 |none (r : AR) (e : Int) (he : e = 12 ∨ e = 13) (hr : dh b r = true) (hv : Va r r.z.val r.t.val 4 4) (hn : Ao b) (h1 : fN b = ⟨zA,[],r,e⟩) (h2 : gz b = ([],e))
 |loose (z t : Rat) (hn : ij b) (hb : (bd b).Bal z t) (hz : HQ z 24000) (ht : HQ t 20000) (h1 : fN b = ⟨zA,[],zA,14⟩) (h2 : gz b = (FL b.l z t,0))
 |one (z t : Rat) (hn : ij b) (hb : (bd b).Bal z t) (hz : HQ z 24000) (ht : HQ t 20000) (hu : ∀ z' t',(bd b).Bal z' t' → z' = z ∧ t' = t) (h1 : fN b = ⟨⟨ofQ z,ofQ t⟩,FL b.l z t,zA,0⟩) (h2 : gz b = (FL b.l z t,0))
theorem Bn {b : BR} (hg : b.Good) (h0 : bq b = 0) : Said b := by
 obtain ⟨hb,hs,-⟩ := hg.2 h0
 have e1 := @rfl _ (fN b)
 have e2 := @rfl _ (gz b)
 conv at e1 => rhs;rw [fN,if_pos h0]
 conv at e2 => rhs;rw [gz,if_pos h0]
 by_cases h1 : dh b bP = true
 ·rw [if_pos h1] at e1 e2
  exact .none bP 12 (.inl rfl) h1 oh (nF hb h1) e1 e2
 ·rw [if_neg h1] at e1 e2
  cases h2 : (bR b.l).find? (dh b) with
  |some r =>
   rw [h2] at e1 e2
   exact .none r 13 (.inr rfl) (List.find?_some h2) (o6 hb.chkL (List.mem_of_find?_eq_some h2)) (nF hb (List.find?_some h2)) e1 e2
  |none =>
   rw [h2] at e1 e2
   have hn := jZ h1 h2
   obtain ⟨_,hbal,hz,ht⟩ := jn hb hs hn
   simp only at e1 e2
   cases hl : dH b (gc b).1 (gc b).2 with
   |true =>
    rw [if_pos hl] at e1
    exact .loose _ _ hn hbal hz ht e1 e2
   |false =>
    rw [if_neg (by rw [hl];decide)] at e1
    exact .one _ _ hn hbal hz ht ((rx hb hbal).1 hl) e1 e2
theorem yH {b : BR} {z t z' t' : Rat} (h : ∀ i,i < (bd b).N → (bd b).f z' t' i = (bd b).f z t i) : FL b.l z' t' = FL b.l z t := by
 refine List.ext_getElem? fun i => ?_
 by_cases hi : i < b.l.length
 ·rw [vj hi,vj hi]
  exact congrArg (fun q => some (ofQ q)) (h i hi)
 ·rw [List.getElem?_eq_none (by rw [FL,List.length_map];omega),List.getElem?_eq_none (by rw [FL,List.length_map];omega)]
theorem pC : ∀ l : List RR,qW l l = true
 |[] => rfl
 |x :: l => by rw [qW,pC l,decide_eq_true rfl];rfl
theorem tg (b : BR) (z t : Rat) : rZ b z t (FL b.l z t) = if (bd b).Bal z t then 0 else 24 := by
 rw [rZ,pC]
 by_cases h : (bd b).Bal z t
 ·rw [if_pos ⟨rfl,h⟩,if_pos h]
 ·rw [if_neg (fun g => h g.2),if_neg h]
theorem vL {b : BR} (hb : b.Ok) {z t z' t' : Rat} (h : (bd b).Bal z t) (h' : (bd b).Bal z' t') : FL b.l z' t' = FL b.l z t := by
 have h1 := Bd.least_energy (dK hb) h z' t'
 have h2 := Bd.least_energy (dK hb) h' z t
 exact yH (h1.2 (by grind))
theorem bal_of_f {b : Bd} {z t z' t' : Rat} (h : b.Bal z t) (hf : ∀ i,i < b.N → b.f z' t' i = b.f z t i) : b.Bal z' t' := by
 have e1 : b.F z' t' = b.F z t := bm hf
 have e2 : b.G z' t' = b.G z t := bm fun i hi => by rw [hf i hi]
 exact ⟨e1.trans h.1,e2.trans h.2⟩
end Go.Pv
