/- Texts of one hand, gathered: FuB. -/
import Derived.Test.YtjejnoojnndnlaaGreatCa6
set_option linter.unusedSectionVars false
set_option linter.unusedSimpArgs false
set_option linter.unusedVariables false
set_option linter.unnecessarySimpa false
set_option maxHeartbeats 2000000
namespace Go.Pv
attribute [local irreducible] PWP POps PQuiet PSem au aq aj ai
open Go.Proofs
set_option maxRecDepth 20000 in
theorem exclude_law (b : BR) (hb : ArgB b) (a : AR) (F : List RR) (hFl : F.length ≤ 9223372036854775807) (r : AR) : Ret Tryz.prog .shared 8 [.agg (eB b),.agg (ou a F),.agg (eA r)] (.bool true) := by
 have aw := jU
 have h1 := l8 b hb.len
 have h2 := m0 a
 have h3 := jH F 12 (by decide) hFl
 have h4 := cS r.z 4 (by decide)
 have h5 := cS r.t 4 (by decide)
 have hmF : (F.map eR).length = F.length := by simp
 have hmg := j0 hb
 have hbr := pn (a := a)
 have hsh := Cm (r := r) (n := 4) (m := 4)
 have hal := xU (F := F) (n := 12)
 generalize io b = x1 at *
 generalize jV a = x2 at *
 generalize (F.all fun x => kf x 12) = x4 at *
 generalize kf r.z 4 = x5 at *
 generalize kf r.t 4 = x6 at *
 obtain ⟨az,at'⟩ := a
 obtain ⟨rz,rt⟩ := r
 simp only at hbr hsh
 refine Ret.of_pwp layOk mixed Go.Proofs.Tryz.func8 rfl (by decide) rfl rfl ?_
 repeat refine aa rfl ?_
 refine aJ rfl rfl rfl aw rfl rfl rfl ?_
 repeat refine aa rfl ?_
 refine aJ rfl rfl rfl h1 rfl rfl rfl ?_
 cases x1
 ·repeat refine aa rfl ?_
  exact aI rfl rfl rfl
 repeat refine aa rfl ?_
 refine aJ rfl rfl rfl h2 rfl rfl rfl ?_
 cases x2
 ·repeat refine aa rfl ?_
  exact aI rfl rfl rfl
 repeat refine aa rfl ?_
 refine e_ rfl rfl rfl ?_ ?_<;>intro h
 ·repeat refine aa rfl ?_
  exact aI rfl rfl rfl
 clear h
 repeat refine aa rfl ?_
 refine aJ rfl rfl rfl h3 rfl rfl rfl ?_
 cases x4
 ·repeat refine aa rfl ?_
  exact aI rfl rfl rfl
 repeat refine aa rfl ?_
 refine aJ rfl rfl rfl h4 rfl rfl rfl ?_
 cases x5
 ·repeat refine aa rfl ?_
  exact aI rfl rfl rfl
 repeat refine aa rfl ?_
 refine aJ rfl rfl rfl h5 rfl rfl rfl ?_
 cases x6
 ·repeat refine aa rfl ?_
  exact aI rfl rfl rfl
 repeat refine aa rfl ?_
 have hg := hmg rfl
 have va := hbr rfl
 have vr := hsh rfl rfl
 have hLe := hal rfl
 have sv := kj b hg
 clear hmg hbr hsh hal h1 h2 h3 h4 h5 aw
 by_cases x7 : bq b = 0
 rotate_left
 ·have p1 := xh b hg.1 x7 ⟨az,at'⟩ F
  rw [fN,if_neg x7,SQ.pv] at sv
  generalize bq b = e at *
  refine aJ rfl rfl rfl p1 rfl rfl rfl ?_
  repeat refine aa rfl ?_
  refine e_ rfl rfl rfl ?_ ?_<;>intro h
  ·exact absurd (of_decide_eq_true h) x7
  repeat refine aa rfl ?_
  refine am rfl rfl rfl sv rfl rfl ?_
  repeat refine aa rfl ?_
  refine ab rfl ?_ ?_<;>intro h
  ·exact absurd (of_decide_eq_true h) x7
  clear h
  repeat refine aa rfl ?_
  refine e_ rfl rfl rfl ?_ ?_<;>intro h
  ·clear h
   repeat refine aa rfl ?_
   exact aI rfl rfl rfl
  clear h
  repeat refine aa rfl ?_
  refine aJ rfl rfl rfl p1 rfl rfl rfl ?_
  repeat refine aa rfl ?_
  exact aI rfl rfl (by simpa using x7)
 obtain ⟨hok,-,-⟩ := hg.2 x7
 have p1 := mf b hok ⟨az,at'⟩ F (ha := va) (by decide) hLe (by decide)
 have p2 := j5 b hok ⟨rz,rt⟩ vr (by decide) (by decide)
 have hE : rZ b az.val at'.val F = 24 ∨ (rZ b az.val at'.val F = 0 ∧ (bd b).Bal az.val at'.val) := by
  rw [rZ]
  split
  ·rename_i h
   exact .inr ⟨rfl,h.2⟩
  ·exact .inl rfl
 cases Bn hg x7 with
 |none r' e he hr hv hn g1 g2 =>
  rw [g1,SQ.pv] at sv
  rcases hE with hE | hE
  rotate_left
  ·exact absurd hE.2 (hn _ _)
  rw [hE] at p1
  rcases he with rfl | rfl
  ·refine aJ rfl rfl rfl p1 rfl rfl rfl ?_
   repeat refine aa rfl ?_
   refine am rfl rfl rfl sv rfl rfl ?_
   repeat refine aa rfl ?_
   refine aJ rfl rfl rfl p1 rfl rfl rfl ?_
   repeat refine aa rfl ?_
   exact aI rfl rfl rfl
  ·refine aJ rfl rfl rfl p1 rfl rfl rfl ?_
   repeat refine aa rfl ?_
   refine am rfl rfl rfl sv rfl rfl ?_
   repeat refine aa rfl ?_
   refine aJ rfl rfl rfl p1 rfl rfl rfl ?_
   repeat refine aa rfl ?_
   exact aI rfl rfl rfl
 |loose z t hn hbal hz ht g1 g2 =>
  rw [g1,SQ.pv] at sv
  rw [jc hok hbal,if_neg (by decide)] at p2
  rcases hE with hE | ⟨hE,-⟩
  ·rw [hE] at p1
   refine aJ rfl rfl rfl p1 rfl rfl rfl ?_
   repeat refine aa rfl ?_
   refine am rfl rfl rfl sv rfl rfl ?_
   repeat refine aa rfl ?_
   exact aI rfl rfl rfl
  ·rw [hE] at p1
   refine aJ rfl rfl rfl p1 rfl rfl rfl ?_
   repeat refine aa rfl ?_
   refine aJ rfl rfl rfl p2 rfl rfl rfl ?_
   repeat refine aa rfl ?_
   refine am rfl rfl rfl sv rfl rfl ?_
   repeat refine aa rfl ?_
   exact aI rfl rfl rfl
 |one z t hn hbal hz ht hu g1 g2 =>
  rw [g1,SQ.pv] at sv
  rw [jc hok hbal,if_neg (by decide)] at p2
  rcases hE with hE | ⟨hE,hB⟩
  ·rw [hE] at p1
   refine aJ rfl rfl rfl p1 rfl rfl rfl ?_
   repeat refine aa rfl ?_
   refine am rfl rfl rfl sv rfl rfl ?_
   repeat refine aa rfl ?_
   refine aJ rfl rfl rfl p2 rfl rfl rfl ?_
   repeat refine aa rfl ?_
   refine aJ rfl rfl rfl p1 rfl rfl rfl ?_
   repeat refine aa rfl ?_
   exact aI rfl rfl rfl
  ·rw [hE] at p1
   obtain ⟨e1,e2⟩ := hu _ _ hB
   have c1 := g6 (ofQ z) az (hx := Vq.ofQ (h := hz)) (hy := va.z) (by decide) (by decide)
   have c2 := g6 (ofQ t) at' (hx := Vq.ofQ (h := ht)) (hy := va.t) (by decide) (by decide)
   rw [e1,show z - z = 0 by grind,show sgn 0 = 0 by decide +kernel] at c1
   rw [e2,show t - t = 0 by grind,show sgn 0 = 0 by decide +kernel] at c2
   generalize FL b.l z t = FF at *
   generalize ofQ z = zz at *
   generalize ofQ t = tt at *
   refine aJ rfl rfl rfl p1 rfl rfl rfl ?_
   repeat refine aa rfl ?_
   refine aJ rfl rfl rfl p2 rfl rfl rfl ?_
   repeat refine aa rfl ?_
   refine am rfl rfl rfl sv rfl rfl ?_
   repeat refine aa rfl ?_
   refine aJ rfl rfl rfl p2 rfl rfl rfl ?_
   repeat refine aa rfl ?_
   refine aJ rfl rfl rfl p1 rfl rfl rfl ?_
   repeat refine aa rfl ?_
   refine aJ rfl rfl rfl c1 rfl rfl rfl ?_
   repeat refine aa rfl ?_
   refine aJ rfl rfl rfl c2 rfl rfl rfl ?_
   repeat refine aa rfl ?_
   exact aI rfl rfl rfl
end Go.Pv
