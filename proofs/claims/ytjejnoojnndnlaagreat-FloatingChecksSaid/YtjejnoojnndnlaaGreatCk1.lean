/- Texts of one hand, gathered: FtA. -/
import Derived.Test.YtjejnoojnndnlaaGreatBa5
set_option linter.unusedSectionVars false
set_option linter.unusedSimpArgs false
set_option linter.unusedVariables false
set_option linter.unnecessarySimpa false
set_option maxHeartbeats 2000000
namespace Go.Pv
attribute [local irreducible] PWP POps PQuiet PSem XThen XBlock RetPost InlPost
open Go.Proofs
set_option maxRecDepth 20000 in
theorem checks_law (b : BR) (hb : ArgB b) : Ret Tryz.prog .shared 3 [.agg (eB b)] (.bool true) := by
 have aw := awake_ret
 have h1 := shortL_ret b.l hb.len 110 5 (by decide) (by decide)
 have h2 := shortR_ret b.a 3 (by decide)
 have hs := shL_iff (l := b.l) (most := 110) (st := 5)
 have ha := shR_sz (x := b.a) (n := 3)
 have main : shL b.l 110 5 = true → shR b.a 3 = true → b.Lim := fun g1 g2 => ⟨hb.w,(ha.1 g2).mono (by decide),short_limL hb.data (hs.1 g1) (by decide) (by decide)⟩
 have c1 := fun g1 g2 => check_ret b.l (main g1 g2).l
 have c2 := fun g1 g2 => rcheck_ret b.l (main g1 g2).l
 have c3 := fun g1 g2 => checkBody_ret b (main g1 g2)
 have c4 := fun g1 g2 => rbody_ret b (main g1 g2)
 clear hs ha main hb
 generalize shL b.l 110 5 = x1 at *
 generalize shR b.a 3 = x2 at *
 generalize checkL b.l = ce at *
 generalize bodyE b = be at *
 obtain ⟨w,a,l⟩ := b
 simp only at *
 cases x1 with
 |false =>
  refine Ret.of_pwp layOk mixed Go.Proofs.Tryz.func3 rfl (by decide) rfl rfl ?_
  repeat refine stq rfl ?_
  refine qst rfl rfl (q_cp rfl aw rfl rfl rfl) ?_
  repeat refine stq rfl ?_
  refine qst rfl rfl (q_cp rfl h1 rfl rfl rfl) ?_
  repeat refine stq rfl ?_
  exact end1b rfl rfl rfl
 |true =>
  cases x2 with
  |false =>
   refine Ret.of_pwp layOk mixed Go.Proofs.Tryz.func3 rfl (by decide) rfl rfl ?_
   repeat refine stq rfl ?_
   refine qst rfl rfl (q_cp rfl aw rfl rfl rfl) ?_
   repeat refine stq rfl ?_
   refine qst rfl rfl (q_cp rfl h1 rfl rfl rfl) ?_
   repeat refine stq rfl ?_
   refine qst rfl rfl (q_cp rfl h2 rfl rfl rfl) ?_
   repeat refine stq rfl ?_
   exact end1b rfl rfl rfl
  |true =>
   have c1 := c1 rfl rfl
   have c2 := c2 rfl rfl
   have c3 := c3 rfl rfl
   have c4 := c4 rfl rfl
   refine Ret.of_pwp layOk mixed Go.Proofs.Tryz.func3 rfl (by decide) rfl rfl ?_
   repeat refine stq rfl ?_
   refine qst rfl rfl (q_cp rfl aw rfl rfl rfl) ?_
   repeat refine stq rfl ?_
   refine qst rfl rfl (q_cp rfl h1 rfl rfl rfl) ?_
   repeat refine stq rfl ?_
   refine qst rfl rfl (q_cp rfl h2 rfl rfl rfl) ?_
   repeat refine stq rfl ?_
   refine pw_draw 15 [15,16,17,18,19,20,21,22,23,24,25,26,27,28,2] (by decide +kernel) ?_
   repeat refine stq rfl ?_
   refine qst rfl rfl (q_cp rfl c1 rfl rfl rfl) ?_
   repeat refine stq rfl ?_
   refine qst rfl rfl (q_cp rfl c2 rfl rfl rfl) ?_
   repeat refine stq rfl ?_
   (first|refine ps_split rfl rfl ?_ ?_|refine pq_split rfl rfl ?_ ?_|refine p3_split rfl rfl ?_ ?_)<;>intro h
   ·clear h
    repeat refine stq rfl ?_
    refine qst rfl rfl (q_cp rfl c3 rfl rfl rfl) ?_
    repeat refine stq rfl ?_
    refine qst rfl rfl (q_cp rfl c4 rfl rfl rfl) ?_
    repeat refine stq rfl ?_
    exact end1b rfl rfl (by simp)
   ·simp at h
end Go.Pv

