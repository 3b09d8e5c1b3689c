/- Texts of one hand, gathered: FuD. -/
import Derived.Test.YtjejnoojnndnlaaGreatCa6
set_option linter.unusedSectionVars false
set_option linter.unusedSimpArgs false
set_option linter.unusedVariables false
set_option linter.unnecessarySimpa false
set_option maxHeartbeats 2000000
namespace Go.Pv
attribute [local irreducible] PWP POps PQuiet PSem au aq aj ai
open Go.Proofs
set_option maxRecDepth 20000 in
theorem rD (F : List RR) (h12 : F.length ≤ 1000) : Ret Tryz.prog .shared 64 [.sl (F.map eR),I F.length] (.sl (F.map eR)) := by
 have hrows : ∀ (k : Nat) x,F[k]? = some x → (F.take (k + 1)).map eR = (F.take k).map eR ++ [eR x] := fun k x hx => by rw [ci hx,List.map_append];rfl
 have hmF : (F.map eR).length = F.length := by simp
 refine Ret.of_pwp layOk mixed Go.Proofs.Tryz.func64 rfl (by decide) rfl rfl ?_
 repeat refine aa rfl ?_
 refine aC (Ghost.nilreg (k := 5) (t := 5) 26 4 1 rfl rfl) ?_
 refine ap (fun k => k ≤ F.length) (fun k => [(0,.sl (F.map eR)),(1,I F.length),(5,.als 5 (k + 1) 0 ((F.take k).map eR).length),(6,I (k : Nat))]) (fun k => [(5,k + 1,⟨26,4,(F.take k).map eR,1⟩)]) (fun k => F.length - k) 0 (Nat.zero_le _) ⟨rfl,rfl,rfl,rfl,rfl,trivial⟩ ?_
 intro k s hk
 repeat refine aa rfl ?_
 refine ab rfl ?_ ?_<;>intro h
 ·have hlt : k < F.length := by have := of_decide_eq_true h;omega
  clear h
  obtain ⟨x,hx⟩ := aH hlt
  have hw := iA k
  have hil : (F.take k).length ≤ 1000 := by rw [List.length_take];omega
  have hr := hrows k x hx
  generalize F.take k = A at *
  repeat refine aa rfl ?_
  refine ab rfl ?_ ?_<;>intro h
  rotate_left
  ·exfalso
   have := of_decide_eq_false h
   simp only [hmF] at this
   omega
  clear h
  repeat refine aa rfl ?_
  refine bL rfl rfl rfl rfl rfl rfl rfl hx rfl ?_
  repeat refine aa rfl ?_
  refine ax (bz 1 rfl rfl rfl rfl rfl rfl rfl rfl rfl rfl rfl (by repeat' constructor) rfl ?_)
  repeat refine aa rfl ?_
  refine ax (bZ 1 rfl rfl rfl rfl rfl rfl rfl rfl rfl rfl rfl (by repeat' constructor) (by intro row hr;first | (simp at hr;subst hr;rfl) | simp at hr) rfl rfl (by simp;omega) (by simp;omega) ?_)
  repeat refine aa rfl ?_
  refine ⟨k + 1,hlt,by omega,rfl,rfl,?_,congrArg I hw,?_,trivial⟩
  ·rw [hr];rfl
  ·rw [hr];rfl
 ·have hge : k = F.length := by have := of_decide_eq_false h;omega
  clear h
  subst hge
  rw [List.take_length]
  repeat refine aa rfl ?_
  exact eM rfl rfl rfl (by repeat' constructor) rfl
theorem Bz {b : BR} (hb : b.Ok) : fY b 0 0 = false := by
 cases hr : fY b 0 0 with
 |false => rfl
 |true =>
  obtain ⟨-,h2⟩ := fj.1 hr
  have e : ac (yT b.l 0 0) b.l.length = 0 := by
   have : ∀ n,ac (yT b.l 0 0) n = 0 := by
    intro n
    induction n with
    |zero => rfl
    |succ n ih => rw [ac,ih,yT,if_neg (by grind)];grind
   exact this _
  rw [e] at h2
  grind
theorem tu : Vq RR.zero 0 4 := ⟨RR.zero_val,by decide,by decide⟩
theorem Ct : Va zA 0 0 4 4 := ⟨tu,tu⟩
set_option maxRecDepth 20000 in
theorem either_law (b : BR) (hb : ArgB b) : Ret Tryz.prog .shared 12 [.agg (eB b)] (.bool true) := by
 have aw := jU
 have h1 := l8 b hb.len
 have hmg := j0 hb
 generalize io b = x1 at *
 refine Ret.of_pwp layOk mixed Go.Proofs.Tryz.func12 rfl (by decide) rfl rfl ?_
 repeat refine aa rfl ?_
 refine aJ rfl rfl rfl aw rfl rfl rfl ?_
 repeat refine aa rfl ?_
 refine aJ rfl rfl rfl h1 rfl rfl rfl ?_
 cases x1
 ·repeat refine aa rfl ?_
  exact aI rfl rfl rfl
 repeat refine aa rfl ?_
 have hg := hmg rfl
 have sv := kj b hg
 have rv := ut b hg
 have h20 := be b hg.1
 clear hmg h1 aw
 by_cases x7 : bq b = 0
 rotate_left
 ·clear sv rv
  generalize bq b = e at *
  refine aJ rfl rfl rfl h20 rfl rfl rfl ?_
  repeat refine aa rfl ?_
  refine ab rfl ?_ ?_<;>intro h
  ·clear h
   repeat refine aa rfl ?_
   exact aI rfl rfl rfl
  ·simp at h
   exact absurd h x7
 rw [x7] at h20
 refine aJ rfl rfl rfl h20 rfl rfl rfl ?_
 repeat refine aa rfl ?_
 obtain ⟨hok,-,-⟩ := hg.2 x7
 cases Bn hg x7 with
 |none r' e he hr hv hn g1 g2 =>
  rw [g1,SQ.pv] at sv
  rw [g2] at rv
  have p2 := j5 b hok r' hv (by decide) (by decide)
  rw [show fY b r'.z.val r'.t.val = true from hr,if_pos rfl] at p2
  rcases he with rfl | rfl
  ·refine am rfl rfl rfl sv rfl rfl ?_
   repeat refine aa rfl ?_
   refine am rfl rfl rfl rv rfl rfl ?_
   repeat refine aa rfl ?_
   refine aJ rfl rfl rfl p2 rfl rfl rfl ?_
   repeat refine aa rfl ?_
   exact aI rfl rfl rfl
  ·refine am rfl rfl rfl sv rfl rfl ?_
   repeat refine aa rfl ?_
   refine am rfl rfl rfl rv rfl rfl ?_
   repeat refine aa rfl ?_
   refine aJ rfl rfl rfl p2 rfl rfl rfl ?_
   repeat refine aa rfl ?_
   exact aI rfl rfl rfl
 |loose z t hn hbal hz ht g1 g2 =>
  rw [g1,SQ.pv] at sv
  rw [g2] at rv
  have hH : ∀ i,i < b.l.length → HQ (fI b.l z t i) 360000 := fun i hi => (Ca hok.lim.l hok.few hz ht hi).mono (by decide)
  have r1 := xL b.l hok.lim.l hok.few.1 (FL b.l z t) (fI b.l z t) (fun i hi => vj hi) hH (by decide)
  rw [show ac (fI b.l z t) b.l.length = (b.w : Rat) from hbal.1,show ac (fun i => fI b.l z t i * xI b.l i) b.l.length = (b.w : Rat) * b.a.val from hbal.2] at r1
  have hlf : (FL b.l z t).length = (b.l.map eS).length := by rw [FL,List.length_map,List.length_map]
  have hl2 : ((FL b.l z t).map eR).length = (b.l.map eS).length := by rw [List.length_map,hlf]
  have r2 := rD (FL b.l z t) (by have := hok.few.1;rw [FL,List.length_map];omega)
  rw [hlf] at r2
  have zw : Zb b.w := aR hok.lim.w.1 hok.lim.w.2
  have vw : Vq (ofQ (b.w : Rat)) (b.w : Rat) 4 := Vq.ofQ (h := HQ.int)
  have r3 := fZ b.w hok.lim.w
  have r4 := g6 (ofQ (b.w : Rat)) (ofQ (b.w : Rat)) (hx := vw) (hy := vw) (by decide) (by decide)
  have r5 := nI (ofQ (b.w : Rat)) b.a (hx := vw) (hy := hok.lim.a.v) (by decide) (by decide)
  have vm : Vq (ofQ ((b.w : Rat) * b.a.val)) ((b.w : Rat) * b.a.val) 17 := Vq.ofQ (h := qT hok)
  have r6 := g6 (ofQ ((b.w : Rat) * b.a.val)) (ofQ ((b.w : Rat) * b.a.val)) (hx := vm) (hy := vm) (by decide) (by decide)
  rw [Rat.sub_self,show sgn 0 = 0 by decide +kernel] at r4 r6
  clear hH g1 g2 hn hbal hlf zw vw vm hz ht
  generalize FL b.l z t = FF at *
  generalize ofQ ((b.w : Rat) * b.a.val) = MM at *
  generalize ofQ (b.w : Rat) = WW at *
  obtain ⟨w,ba,l⟩ := b
  simp only at *
  refine am rfl rfl rfl sv rfl rfl ?_
  repeat refine aa rfl ?_
  refine am rfl rfl rfl rv rfl rfl ?_
  repeat refine aa rfl ?_
  refine bk 8 1 [73,74,75,76,77,78,79,80,8] [] (by decide +kernel) rfl ?_
  repeat refine aa rfl ?_
  refine am rfl rfl rfl r2 rfl rfl ?_
  repeat refine aa rfl ?_
  refine am rfl rfl rfl r1 rfl rfl ?_
  repeat refine aa rfl ?_
  refine am rfl rfl rfl r3 rfl rfl ?_
  repeat refine aa rfl ?_
  refine ah 28 [84,85,86,87,88,89,90,91,92,93,94,95,96,97,98,99,100,101,102,103,104,105,106,107,108,109,110,2] (by decide +kernel) ?_
  repeat refine aa rfl ?_
  refine e_ rfl rfl rfl ?_ ?_<;>intro h
  rotate_left
  ·exfalso
   have := of_decide_eq_false h
   simp only [hl2] at this
   exact this trivial
  clear h
  repeat refine aa rfl ?_
  refine aJ rfl rfl rfl r4 rfl rfl rfl ?_
  repeat refine aa rfl ?_
  refine am rfl rfl rfl r5 rfl rfl ?_
  repeat refine aa rfl ?_
  refine aJ rfl rfl rfl r6 rfl rfl rfl ?_
  repeat refine aa rfl ?_
  exact aI rfl rfl (by simp [hl2])
 |one z t hn hbal hz ht hu g1 g2 =>
  rw [g1,SQ.pv] at sv
  rw [g2] at rv
  have vz : Va ⟨ofQ z,ofQ t⟩ z t 24000 20000 := ⟨Vq.ofQ (h := hz),Vq.ofQ (h := ht)⟩
  have hFL := pc hok.lim.l hok.few hz ht
  have p5 := mf b hok ⟨ofQ z,ofQ t⟩ (FL b.l z t) (ha := vz) (by decide) hFL (by decide)
  rw [tg,if_pos hbal] at p5
  have p2 := j5 b hok zA Ct (by decide) (by decide)
  rw [Bz hok,if_neg (by decide)] at p2
  have hlen : (FL b.l z t).length ≤ 1000000 := by rw [FL,List.length_map];have := hok.few.1;omega
  have s1 := i5 (FL b.l z t) hlen (fun x hx => ⟨Nat.le_trans (hFL x hx).1 (by decide),Nat.le_trans (hFL x hx).2 (by decide)⟩)
  clear hFL hlen
  generalize FL b.l z t = FF at *
  generalize ofQ z = zz at *
  generalize ofQ t = tt at *
  refine am rfl rfl rfl sv rfl rfl ?_
  repeat refine aa rfl ?_
  refine am rfl rfl rfl rv rfl rfl ?_
  repeat refine aa rfl ?_
  refine aJ rfl rfl rfl p5 rfl rfl rfl ?_
  repeat refine aa rfl ?_
  refine aJ rfl rfl rfl s1 rfl rfl rfl ?_
  repeat refine aa rfl ?_
  refine aJ rfl rfl rfl p2 rfl rfl rfl ?_
  repeat refine aa rfl ?_
  exact aI rfl rfl rfl
end Go.Pv
