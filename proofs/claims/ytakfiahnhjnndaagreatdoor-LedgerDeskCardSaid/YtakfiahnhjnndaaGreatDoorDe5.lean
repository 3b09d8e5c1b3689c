/- Texts of one hand, gathered: PvTk, LgC, PvX, LdA, LbH, LdB, LdC, LdD, LdE, LdF, LdG, LdH, LdI, LdJ, LdK, LgD, LgE, LeA, LfA, PvRg, PvBa, PvBb, PvBd, LfB. -/
import Derived.Test.YtakfiahnhjnndaaGreatDoorDe4
import Derived.ProofKit
import Derived.OpenShut
import Derived.Carry
import Derived.LaidEql
import Derived.Lib.SplitLaws
import Derived.Shelf.Strings.Builder1
set_option linter.unusedSectionVars false
set_option linter.unusedSimpArgs false
set_option linter.unusedVariables false
set_option linter.unnecessarySimpa false
namespace Go.Pv
open Go.RowKit
def plain1 : PV → Bool
 |.int _ _ | .bool _ | .str _ => true
 |_ => false
theorem plain_val {E : Env} {c : PV} {v : Value} (h : plain1 c = true) (hr : Rep E c v) : v = scv c := by
 cases c <;> simp only [plain1,Bool.false_eq_true] at h
 ·exact hr.bool_inv
 ·exact hr.int_inv
 ·exact hr.str_inv
theorem plain_drep {c : PV} (h : plain1 c = true) (w : World) (ok : Nat → Prop) : DRep w ok c (scv c) ∧ (scv c).oneCell' = true := by
 cases c <;> simp only [plain1,Bool.false_eq_true] at h
 ·exact ⟨.bool _,rfl⟩
 ·exact ⟨.int _ _,rfl⟩
 ·exact ⟨.str _,rfl⟩
variable [Globs]
theorem Ghost.nilfs {s : St} {t : Nat} (hr : s.reg t = .nil) : Ghost s (s.putR t (.fsl [])) := by
 intro C a w hX ⟨γ,h⟩
 refine ⟨γ,h.defers,h.size,fun r => ?_,h.sites,h.inj,h.base,h.below,h.top,h.kept⟩
 show Rep _ (bif Nat.beq r t then _ else s.reg r) _
 by_cases hrt : r = t
 ·subst hrt
  have hp := h.regs r
  rw [hr] at hp
  simp only [Nat.beq_refl,cond_true]
  rw [hp.nil_inv]
  exact .fsl (.sl0 _ _)
 ·rw [nbeq_ne hrt];exact h.regs r
theorem Ghost.takeF {s : St} {k g t n kd sz : Nat} {T : TypeId} {rows : List (List PV)} {α : Type} {enc : α → List PV} (l : List α) (ho : s.own k = (g,some ⟨T,sz,rows,kd⟩)) (hr : s.reg t = .als k g 0 n) (he : rows = l.map enc) (hn : n = rows.length) (hpl : ∀ x,(enc x).all plain1 = true) :
  Ghost s ((s.setOwn k (g + 1) none).putR t (.fsl (l.map enc))) := by
 intro C a w hX ⟨γ,h⟩
 subst hn
 subst he
 obtain ⟨h1,hle,_⟩ := h.drop hX ho
 refine ⟨γ,h1.defers,h1.size,fun r => ?_,h1.sites,h1.inj,h1.base,h1.below,h1.top,h1.kept⟩
 show Rep _ (bif Nat.beq r t then _ else (s.setOwn k (g + 1) none).reg r) _
 by_cases hrt : r = t
 ·subst hrt
  have hp := h.regs r
  rw [hr] at hp
  simp only [Nat.beq_refl,cond_true]
  refine .fsl ?_
  rcases h.als_at hp ho with ⟨q1,_,q3,q4⟩ | ⟨b,cap,cur,q1,q2,q3,q4,q5,q6,q7⟩
  ·have : l.map enc = [] := (h.sites k _ (by rw [ho])).emp q1
   rw [this,q4]
   exact .sl0 _ _
  ·obtain ⟨cur',g1,g2,g3,g4,g5⟩ := h.site_at ho q1 (h.cells_sz ho q1 q3 q6)
   have hb : (envOf C γ (s.setOwn k (g + 1) none) w).okf b := by
    have hbase := h.base k _ b (by rw [ho]) q1
    refine ⟨hbase.1,hbase.2,fun hx => ?_,fun k' c' hc' hb' => ?_⟩
    ·have := hX b hx;omega
    ·by_cases hk' : k' = k
     ·subst hk';rw [setOwn_same] at hc';cases hc'
     ·rw [setOwn_ne hk'] at hc'
      exact hk' (h.inj k' k c' _ b hc' (by rw [ho]) hb' q1)
   rw [q2]
   simp only [Nat.zero_mul]
   refine .sl (l.map enc) b 0 cap sz (fun i j => cur'.getD (i * sz + j) undef) hb g2 q4 g4 (fun i j row pv e1 e2 => ?_) (fun i j row pv e1 e2 => ?_)
   ·obtain ⟨u,f1,f2,_⟩ := g5 i j row pv e1 e2
    have g1 : w.heap[b]? = some (.cells cur' T (0,0)) := g1
    show w.cell? _ = _ ∧ _
    rw [cell_of_cells g1,Nat.zero_add,f1]
    simp [f1,f2]
   ·obtain ⟨u,f1,_,f3⟩ := g5 i j row pv e1 e2
    have hu : cur'.getD (i * sz + j) undef = u := by simp [f1]
    simp only [hu]
    rw [List.getElem?_map,Option.map_eq_some_iff] at e1
    obtain ⟨y,_,rfl⟩ := e1
    have hpv := List.all_eq_true.1 (hpl y) _ (List.mem_of_getElem? e2)
    rw [plain_val hpv (f3.rep envOf_okfok)]
    exact (plain_drep hpv _ _).1
 ·rw [nbeq_ne hrt];exact h1.regs r
theorem Ghost.empty {s : St} {k gk : Nat} {oc : Option Cont} (T : TypeId) (sz kd : Nat) (ho : s.own k = (gk,oc)) : Ghost s (s.setOwn k (gk + 1) (some ⟨T,sz,[],kd⟩)) := by
 intro C a w hX ⟨γ,h⟩
 have ht : Turn C γ s w w k none := ⟨rfl,rfl,rfl,Nat.le_refl _,fun b _ => .inl rfl,fun b hb => by cases hb⟩
 have h1 := ht.sim h (c := ⟨T,sz,[],kd⟩) (.none_ rfl)
 have hfin : s.fin k ⟨T,sz,[],kd⟩ = s.setOwn k (gk + 1) (some ⟨T,sz,[],kd⟩) := by rw [St.fin,ho]
 rw [hfin] at h1
 exact ⟨_,h1⟩
section
variable {P : Program} {L : Lay} {Q : Exit → St → Prop} {s : St}
theorem pw_exitE {ι : Type} {c : Code} {id : Nat} {next : St → Prop} (X : ι → Prop) (regs : ι → List (Nat × PV)) (owns : ι → List (Nat × Nat × Cont)) (h1 : PWP P L c (XBlock id (XThen (fun s' => ∃ i,X i ∧ Fit s' (regs i) (owns i)) Q)) s) (h2 : ∀ i,X i → ∀ s : St,next (s.over (regs i) (owns i))) : PWP P L c (XBlock id (XThen next Q)) s := by
 refine PWP.mono ?_ _ h1
 intro e s' h
 have key : (∃ i,X i ∧ Fit s' (regs i) (owns i)) → next s' := by
  rintro ⟨i,hX,hf⟩
  have := h2 i hX s'
  rwa [Fit.over hf] at this
 cases e
 case normal => exact key h
 case exit id' =>
  show if id' = id then _ else _
  have h : if id' = id then _ else _ := h
  split
  ·rename_i he
   rw [if_pos he] at h
   exact key h
  ·rename_i he
   rw [if_neg he] at h
   exact h
 all_goals exact h
end
end Go.Pv


set_option maxHeartbeats 2000000
namespace Go.Pv
attribute [local irreducible] PWP POps PQuiet PSem XThen XBlock RetPost InlPost
open Go.Proofs
theorem bookLive_ret (l : List SPost) (hO : Ok l) (n : Int) : Ret Tryz.prog .shared 48 [.dref (eBook l) 0,I n] (if inside n 1 l.length = true then .tup [.bool (liveB l n),I 0] else .tup [.bool false,I 6]) := by
 have h1 := has_ret l n
 by_cases hi : inside n 1 l.length = true
 ·have hb : 1 ≤ n ∧ n ≤ l.length := by simpa [inside] using hi
  have h2 := live_ret l hO.wf n hb.2
  rw [if_pos hi]
  rw [hi] at h1
  refine Ret.of_pwp layOk mixed Go.Proofs.Tryz.func48 rfl (by decide) rfl rfl ?_
  repeat refine stq rfl ?_
  refine qst rfl rfl (q_cp rfl h1 rfl rfl rfl) ?_
  repeat refine stq rfl ?_
  refine qst rfl rfl (q_cp rfl h2 rfl rfl rfl) ?_
  repeat refine stq rfl ?_
  exact end2 rfl rfl rfl rfl rfl trivial trivial rfl
 ·rw [if_neg hi]
  have hi : inside n 1 l.length = false := by simpa using hi
  rw [hi] at h1
  refine Ret.of_pwp layOk mixed Go.Proofs.Tryz.func48 rfl (by decide) rfl rfl ?_
  repeat refine stq rfl ?_
  refine qst rfl rfl (q_cp rfl h1 rfl rfl rfl) ?_
  repeat refine stq rfl ?_
  exact end2 rfl rfl rfl rfl rfl trivial trivial rfl
theorem its_len (l : List SPost) (o : Str) : ∀ k,(itsK l o k).length ≤ k
 |0 => Nat.le_refl _
 |k + 1 => by
  have := its_len l o k
  rw [itsK];split
  ·simp;exact this
  ·omega
set_option maxRecDepth 20000 in
theorem accounts_ref (l : List SPost) (hA : Acc l) (o : Str) : Ret Tryz.prog .shared 139 [.sl (l.map ePost),.str o] (if standE l (ordNo l o) = 0 then .tup [.sl ((accP l o).map eAcct),I 0] else .tup [.nil,I (standE l (ordNo l o))]) := by
 have hO := hA.ok
 have hl := hO.wf.len
 have hll : ((l.map ePost).length : Int) = l.length := by simp
 have h1 := order_ref l o hl
 have hob := ordNo_le l o
 have h2 := of_ref l hO.wf (ordNo l o) (by omega) (by omega)
 by_cases hz : standE l (ordNo l o) = 0
 case neg =>
  rw [if_neg hz]
  refine Ret.of_pwp layOk mixed Go.Proofs.Tryz.func139 rfl (by decide) rfl rfl ?_
  repeat refine stq rfl ?_
  refine qst rfl rfl (q_cp rfl h1 rfl rfl rfl) ?_
  repeat refine stq rfl ?_
  refine qst rfl rfl (q_cp rfl h2 rfl rfl rfl) ?_
  repeat refine stq rfl ?_
  refine pw_cond rfl (fun h => ?_) (fun h => ?_)
  ·repeat refine stq rfl ?_
   exact end2 rfl rfl rfl rfl rfl trivial trivial rfl
  ·exact absurd (by simpa using h) hz
 rw [if_pos hz,accP_items hA]
 rw [hz] at h2
 refine Ret.of_pwp layOk mixed Go.Proofs.Tryz.func139 rfl (by decide) rfl rfl ?_
 repeat refine stq rfl ?_
 refine qst rfl rfl (q_cp rfl h1 rfl rfl rfl) ?_
 repeat refine stq rfl ?_
 refine qst rfl rfl (q_cp rfl h2 rfl rfl rfl) ?_
 repeat refine stq rfl ?_
 refine pw_ghost (Ghost.nilreg (k := 7) (t := 7) 185 7 0 rfl rfl) ?_
 refine pw_loop (fun (j : Nat × Nat) => j.1 ≤ l.length) (fun j => [(0,.sl (l.map ePost)),(1,.str o),(7,.als 7 j.2 0 (((itsK l o j.1).map (fun n => ovrA (accA l n l.length))).map eAcct).length),(8,I (j.1 + 1))]) (fun j => [(7,j.2,⟨185,7,((itsK l o j.1).map (fun n => ovrA (accA l n l.length))).map eAcct,0⟩)]) (fun j => l.length - j.1) (0,1) (Nat.zero_le _) ⟨rfl,rfl,rfl,rfl,rfl,trivial⟩ ?_
 rintro ⟨j,g⟩ s hj
 have hj : j ≤ l.length := hj
 repeat refine stq rfl ?_
 rw [hll]
 refine pw_cond rfl (fun h => ?_) (fun h => ?_)
 ·have hjb : j < l.length := by have := of_decide_eq_true h;omega
  clear h
  have he := entL_at (l := l) (n := (j : Int) + 1) (by omega) (by omega)
  have hv := live_ref l hO.wf ((j : Int) + 1).toNat ((j : Int) + 1) (by omega) (by omega) (by omega)
  have hac := account_ref l hA ((j : Int) + 1) (by omega) (by omega)
  have hs : itsK l o (j + 1) = if itB l o ((j : Int) + 1) = true then itsK l o j ++ [(j : Int) + 1] else itsK l o j := rfl
  have hw : IntKind.wrap .i64 ((j : Int) + 1 - 1) = (j : Int) + 1 - 1 := wrap_i64 (by omega) (by omega)
  have hlen : (itsK l o j).length ≤ j := its_len l o j
  rw [itB,accI] at hs
  repeat refine stq rfl ?_
  rw [hw]
  refine qst rfl rfl (q_idxm rfl rfl rfl rfl rfl (by omega) he rfl) ?_
  generalize entL l ((j : Int) + 1) = p at *
  have next : itsK l o (j + 1) = itsK l o j → ∀ st : St,Fit st [(0,.sl (l.map ePost)),(1,.str o),(7,.als 7 g 0 (((itsK l o j).map (fun n => ovrA (accA l n l.length))).map eAcct).length),(8,I (j + 1 + 1))] [(7,g,⟨185,7,((itsK l o j).map (fun n => ovrA (accA l n l.length))).map eAcct,0⟩)] →
    ∃ i : Nat × Nat,i.1 ≤ l.length ∧ l.length - i.1 < l.length - j ∧ Fit st [(0,.sl (l.map ePost)),(1,.str o),(7,.als 7 i.2 0 (((itsK l o i.1).map (fun n => ovrA (accA l n l.length))).map eAcct).length),(8,I (i.1 + 1))] [(7,i.2,⟨185,7,((itsK l o i.1).map (fun n => ovrA (accA l n l.length))).map eAcct,0⟩)] := fun hf st hfit =>
   ⟨(j + 1,g),hjb,by show l.length - (j + 1) < l.length - j;omega,by simp only [hf];exact hfit⟩
  repeat refine stq rfl ?_
  (first|refine ps_split rfl rfl ?_ ?_|refine pq_split rfl rfl ?_ ?_|refine p3_split rfl rfl ?_ ?_)<;>intro h
  rotate_left
  ·have g1 : ¬ p.op = 1 := by simpa using h
   rw [decide_eq_false g1,Bool.false_and,if_neg (by simp)] at hs
   repeat refine stq rfl ?_
   exact next hs _ ⟨rfl,rfl,rfl,i64_next (by omega) (by omega),rfl,trivial⟩
  have g1 : p.op = 1 := by simpa using h
  clear h
  rw [decide_eq_true g1,Bool.true_and] at hs
  repeat refine stq rfl ?_
  rw [hw]
  refine qst rfl rfl (q_idxm rfl rfl rfl rfl rfl (by omega) he rfl) ?_
  repeat refine stq rfl ?_
  (first|refine ps_split rfl rfl ?_ ?_|refine pq_split rfl rfl ?_ ?_|refine p3_split rfl rfl ?_ ?_)<;>intro h
  rotate_left
  ·have g2 : ¬ p.order = o := by simpa using h
   rw [decide_eq_false g2,Bool.false_and,if_neg (by simp)] at hs
   repeat refine stq rfl ?_
   exact next hs _ ⟨rfl,rfl,rfl,i64_next (by omega) (by omega),rfl,trivial⟩
  have g2 : p.order = o := by simpa using h
  clear h
  rw [decide_eq_true g2,Bool.true_and] at hs
  generalize liveB l ((j : Int) + 1) = lv at *
  repeat refine stq rfl ?_
  refine qst rfl rfl (q_cp rfl hv rfl rfl rfl) ?_
  cases lv with
  |false =>
   rw [if_neg (by simp)] at hs
   repeat refine stq rfl ?_
   exact next hs _ ⟨rfl,rfl,rfl,i64_next (by omega) (by omega),rfl,trivial⟩
  |true =>
   rw [if_pos rfl] at hs
   repeat refine stq rfl ?_
   refine qst rfl rfl (q_cp rfl hac rfl rfl rfl) ?_
   repeat refine stq rfl ?_
   refine qst rfl rfl (q_slit rfl rfl rfl rfl rfl rfl rfl rfl rfl rfl (by repeat' constructor) rfl) ?_
   repeat refine stq rfl ?_
   refine ps_run (o_app 0 rfl rfl rfl rfl rfl rfl rfl rfl rfl rfl rfl (by repeat' constructor) (by intro row hr;first | (simp at hr;subst hr;rfl) | simp at hr) rfl rfl (by simp;omega) (by simp;omega) ?_)
   repeat refine stq rfl ?_
   refine ⟨(j + 1,g + 1),hjb,by show l.length - (j + 1) < l.length - j;omega,rfl,rfl,?_,i64_next (by omega) (by omega),?_,trivial⟩
   ·show _ = PV.als 7 (g + 1) 0 (((itsK l o (j + 1)).map (fun n => ovrA (accA l n l.length))).map eAcct).length
    rw [hs,List.map_append,List.map_append];rfl
   ·show _ = (g + 1,some (Cont.mk 185 7 (((itsK l o (j + 1)).map (fun n => ovrA (accA l n l.length))).map eAcct) 0))
    rw [hs,List.map_append,List.map_append];rfl
 ·have hz : j = l.length := by have := of_decide_eq_false h;omega
  subst hz
  repeat refine stq rfl ?_
  exact end2 rfl rfl rfl rfl rfl (by repeat' constructor) trivial rfl
def numA (l : List SPost) : Nat → List Int
 |0 => List.replicate (l.length + 1) 0
 |k + 1 => if restK l k = true then (numA l k).set (k + 1) (kap (restK l) (k + 1) : Nat) else numA l k
theorem numA_len (l : List SPost) : ∀ k,(numA l k).length = l.length + 1
 |0 => by simp [numA]
 |k + 1 => by
  rw [numA]
  split
  ·rw [List.length_set,numA_len l k]
  ·exact numA_len l k
theorem numA_at (l : List SPost) : ∀ {k j : Nat},j < k → k ≤ l.length → restK l j = true → (numA l k)[j + 1]? = some ((kap (restK l) (j + 1) : Nat) : Int)
 |0,j,h,_,_ => by omega
 |k + 1,j,h,hk,hr => by
  rw [numA]
  rcases Nat.lt_or_ge j k with hj | hj
  ·have ih := numA_at l hj (by omega) hr
   split
   ·rw [List.getElem?_set_ne (by omega)];exact ih
   ·exact ih
  ·have : j = k := by omega
   subst this
   rw [if_pos hr,List.getElem?_set_self (by rw [numA_len];omega)]
set_option maxRecDepth 20000 in
theorem rest_ref (l : List SPost) (hA : Acc l) : Ret Tryz.prog .shared 95 [.sl (l.map ePost)] (.sl ((restL l).map ePost)) := by
 have hO := hA.ok
 have hl := hO.wf.len
 have hll : ((l.map ePost).length : Int) = l.length := by simp
 have hwl : IntKind.wrap .i64 ((l.length : Int) + 1) = (l.length : Int) + 1 := wrap_i64 (by omega) (by omega)
 refine Ret.of_pwp layOk mixed Go.Proofs.Tryz.func95 rfl (by decide) rfl rfl ?_
 ((repeat (first | refine ps_nil ?_ | refine pq_nil ?_ | refine x_norm ?_ | refine pw_seq ?_));refine pw_region ?_)
 refine ps_v rfl trivial ?_
 refine ps_nil ?_
 refine x_norm ?_
 ((repeat (first | refine ps_nil ?_ | refine pq_nil ?_ | refine x_norm ?_ | refine pw_seq ?_));refine pw_region ?_)
 refine ps_v rfl trivial ?_
 refine ps_nil ?_
 refine x_norm ?_
 refine pw_ghost (Ghost.nilreg (k := 3) (t := 3) 23 9 0 rfl rfl) ?_
 repeat refine stq rfl ?_
 rw [hll,hwl]
 refine ps_run (o_make rfl rfl rfl rfl rfl rfl rfl rfl (by omega) (by show ((8 : Nat) : Int) * _ ≤ _;omega) (by omega) ?_)
 rw [show ((l.length : Int) + 1).toNat = l.length + 1 by omega]
 repeat refine stq rfl ?_
 refine pw_loop (fun k => k ≤ l.length) (fun k => [(0,.sl (l.map ePost)),(3,.als 3 (1 + (sub (restK l) l k).length) 0 ((sub (restK l) l k).map ePost).length),(4,.als 10 1 0 (l.length + 1)),(5,I k)])
  (fun k => [(3,1 + (sub (restK l) l k).length,⟨23,9,(sub (restK l) l k).map ePost,0⟩),(10,1,⟨3,1,(numA l k).map eI,0⟩)]) (fun k => l.length - k) 0 (Nat.zero_le _) ⟨rfl,rfl,?_,rfl,rfl,?_,trivial⟩ ?_
 ·show PV.als 10 1 0 (List.replicate (l.length + 1) [I 0]).length = _
  rw [List.length_replicate]
 ·show (1,some (Cont.mk 3 1 (List.replicate (l.length + 1) [I 0]) 0)) = _
  simp [numA,eI]
 intro k s hk
 have hk : k ≤ l.length := hk
 repeat refine stq rfl ?_
 rw [hll]
 refine pw_cond rfl (fun h => ?_) (fun h => ?_)
 ·have hlt : k < l.length := by have := of_decide_eq_true h;omega
  clear h
  have hx := ent_get hlt
  have hv := live_ref l hO.wf ((k : Int) + 1).toNat ((k : Int) + 1) (by omega) (by omega) (by omega)
  have hw : IntKind.wrap .i64 ((k : Int) + 1) = (k : Int) + 1 := wrap_i64 (by omega) (by omega)
  have hK : restK l k = (liveB l ((k : Int) + 1) && !decide ((entL l ((k : Int) + 1)).op = 8)) := rfl
  have hs : sub (restK l) l (k + 1) = if restK l k = true then sub (restK l) l k ++ [renum (restK l) (entL l ((k : Int) + 1))] else sub (restK l) l k := rfl
  have hm : numA l (k + 1) = if restK l k = true then (numA l k).set (k + 1) (kap (restK l) (k + 1) : Nat) else numA l k := rfl
  have hrefs := hO.refs k hlt
  have hag : restK l k = true → 0 < (entL l ((k : Int) + 1)).ref → (numA l k)[(entL l ((k : Int) + 1)).ref.toNat]? = some ((kap (restK l) (entL l ((k : Int) + 1)).ref.toNat : Nat) : Int) := fun hkk hp => by
   have ho : (entL l ((k : Int) + 1)).op = 4 ∨ (entL l ((k : Int) + 1)).op = 5 ∨ (entL l ((k : Int) + 1)).op = 8 := by
    by_cases h' : (entL l ((k : Int) + 1)).op = 4 ∨ (entL l ((k : Int) + 1)).op = 5 ∨ (entL l ((k : Int) + 1)).op = 8
    ·exact h'
    ·have := (hO.pos _ _ hx).2.2.2 h';omega
   obtain ⟨g1,g2,g3⟩ := (rest_ok hA).ref hO hlt hkk ho
   obtain ⟨j,e1,e2⟩ := pred_nat g1
   rw [e2] at g3
   have := numA_at l (k := k) (j := j) (by omega) hk g3
   rw [e1,show ((j : Int) + 1).toNat = j + 1 by omega]
   exact this
  have hkap := kap_yes (K := restK l) (k := k)
  have hsl := sub_len (restK l) l k
  have hkl := kap_le (restK l) k
  have hMl := numA_len l k
  generalize sub (restK l) l k = S at *
  generalize numA l k = M at *
  generalize entL l ((k : Int) + 1) = x at *
  repeat refine stq rfl ?_
  refine qst rfl rfl (q_idxm rfl rfl rfl rfl rfl (by omega) hx rfl) ?_
  repeat refine stq rfl ?_
  (first|refine ps_split rfl rfl ?_ ?_|refine pq_split rfl rfl ?_ ?_|refine p3_split rfl rfl ?_ ?_)<;>intro h
  ·have g8 : x.op = 8 := by simpa using h
   have hkf : ¬ restK l k = true := by rw [hK,decide_eq_true g8];simp
   rw [if_neg hkf] at hs hm
   repeat refine stq rfl ?_
   exact ⟨k + 1,hlt,by omega,rfl,by rw [hs];rfl,rfl,i64_next (by omega) (by omega),by rw [hs];rfl,by rw [hm];rfl,trivial⟩
  have g8 : ¬ x.op = 8 := by simpa using h
  clear h
  rw [decide_eq_false g8] at hK
  generalize liveB l ((k : Int) + 1) = lv at *
  repeat refine stq rfl ?_
  rw [hw]
  refine qst rfl rfl (q_cp rfl hv rfl rfl rfl) ?_
  cases lv with
  |false =>
   have hkf : ¬ restK l k = true := by rw [hK];simp
   rw [if_neg hkf] at hs hm
   repeat refine stq rfl ?_
   exact ⟨k + 1,hlt,by omega,rfl,by rw [hs];rfl,rfl,i64_next (by omega) (by omega),by rw [hs];rfl,by rw [hm];rfl,trivial⟩
  |true =>
  have hkt : restK l k = true := by rw [hK];rfl
  rw [if_pos hkt] at hs hm
  have hag := hag hkt
  have hkap := hkap hkt
  have hput : (M.map eI)[0 + ((k : Int) + 1).toNat]? = some (eI (M.getD (k + 1) 0)) := by
   rw [Nat.zero_add,show ((k : Int) + 1).toNat = k + 1 by omega,List.getElem?_map,List.getD_eq_getElem?_getD]
   rw [List.getElem?_eq_getElem (by omega)];rfl
  have hset : 0 + ((k : Int) + 1).toNat = k + 1 := by omega
  have hputM : M[0 + ((k : Int) + 1).toNat]? = some (M.getD (k + 1) 0) := by
   rw [Nat.zero_add,show ((k : Int) + 1).toNat = k + 1 by omega,List.getD_eq_getElem?_getD,List.getElem?_eq_getElem (by omega)];rfl
  repeat refine stq rfl ?_
  refine qst rfl rfl (q_idxm rfl rfl rfl rfl rfl (by omega) hx rfl) ?_
  repeat refine stq rfl ?_
  by_cases hp : 0 < x.ref
  ·have hag := hag hp
   have hgr : (M.map eI)[0 + x.ref.toNat]? = some (eI (kap (restK l) x.ref.toNat : Nat)) := by rw [Nat.zero_add,List.getElem?_map,hag];rfl
   have hrn : renum (restK l) x = ⟨x.op,x.day,x.order,x.item,x.ship,x.who,x.amount,(kap (restK l) x.ref.toNat : Nat),x.role⟩ := by
    rw [renum,if_pos hp]
   rw [hrn] at hs
   generalize ((kap (restK l) x.ref.toNat : Nat) : Int) = nr at *
   refine pw_cond rfl (fun h => ?_) (fun h => ?_)
   ·clear h
    repeat refine stq rfl ?_
    refine qst rfl rfl (q_idxA rfl rfl rfl rfl rfl rfl rfl (by omega) (by omega)) ?_
    repeat refine stq rfl ?_
    refine qst rfl rfl (q_ldp rfl rfl rfl hgr rfl) ?_
    repeat refine stq rfl ?_
    refine qst rfl rfl (q_slit rfl rfl rfl rfl rfl rfl rfl rfl rfl rfl (by repeat' constructor) rfl) ?_
    repeat refine stq rfl ?_
    refine ps_run (o_app 0 rfl rfl rfl rfl rfl rfl rfl rfl rfl rfl rfl (by repeat' constructor) (by intro row hr;first | (simp at hr;subst hr;rfl) | simp at hr) rfl rfl (by simp;omega) (by simp;omega) ?_)
    repeat refine stq rfl ?_
    rw [hw]
    refine qst rfl rfl (q_idxA rfl rfl rfl rfl rfl rfl rfl (by omega) (by omega)) ?_
    repeat refine stq rfl ?_
    refine ps_run0 (o_storeM (enc := eI) ((((S.map ePost) ++ [ePost ⟨x.op,x.day,x.order,x.item,x.ship,x.who,x.amount,nr,x.role⟩]).length : Nat) : Int) (kd' := 0) rfl rfl rfl hputM rfl rfl ⟨trivial,trivial⟩ rfl rfl rfl rfl rfl ?_)
    repeat refine stq rfl ?_
    refine ⟨k + 1,hlt,by omega,rfl,?_,rfl,i64_next (by omega) (by omega),?_,?_,trivial⟩
    ·rw [hs];exact als_snoc ePost 3 1 S ⟨x.op,x.day,x.order,x.item,x.ship,x.who,x.amount,nr,x.role⟩
    ·rw [hs];exact cont_snoc ePost 1 23 9 0 S ⟨x.op,x.day,x.order,x.item,x.ship,x.who,x.amount,nr,x.role⟩
    ·rw [hm]
     show (1,some (Cont.mk 3 1 ((M.set (0 + ((k : Int) + 1).toNat) _).map eI) 0)) = _
     rw [hset,hkap,← hsl]
     simp
   ·exact absurd (of_decide_eq_false h) (by omega)
  ·have hrn : renum (restK l) x = x := by rw [renum,if_neg hp]
   rw [hrn] at hs
   refine pw_cond rfl (fun h => ?_) (fun h => ?_)
   ·exact absurd (of_decide_eq_true h) (by omega)
   ·clear h
    repeat refine stq rfl ?_
    refine qst rfl rfl (q_slit rfl rfl rfl rfl rfl rfl rfl rfl rfl rfl (by repeat' constructor) rfl) ?_
    repeat refine stq rfl ?_
    refine ps_run (o_app 0 rfl rfl rfl rfl rfl rfl rfl rfl rfl rfl rfl (by repeat' constructor) (by intro row hr;first | (simp at hr;subst hr;rfl) | simp at hr) rfl rfl (by simp;omega) (by simp;omega) ?_)
    repeat refine stq rfl ?_
    rw [hw]
    refine qst rfl rfl (q_idxA rfl rfl rfl rfl rfl rfl rfl (by omega) (by omega)) ?_
    repeat refine stq rfl ?_
    refine ps_run0 (o_storeM (enc := eI) ((((S.map ePost) ++ [ePost x]).length : Nat) : Int) (kd' := 0) rfl rfl rfl hputM rfl rfl ⟨trivial,trivial⟩ rfl rfl rfl rfl rfl ?_)
    repeat refine stq rfl ?_
    refine ⟨k + 1,hlt,by omega,rfl,?_,rfl,i64_next (by omega) (by omega),?_,?_,trivial⟩
    ·rw [hs];exact als_snoc ePost 3 1 S x
    ·rw [hs];exact cont_snoc ePost 1 23 9 0 S x
    ·rw [hm]
     show (1,some (Cont.mk 3 1 ((M.set (0 + ((k : Int) + 1).toNat) _).map eI) 0)) = _
     rw [hset,hkap,← hsl]
     simp
 ·have hz : k = l.length := by have := of_decide_eq_false h;omega
  subst hz
  repeat refine stq rfl ?_
  exact end1 rfl rfl rfl (by repeat' constructor) rfl
end Go.Pv


namespace Go.Pv
open Go.RowKit Go.ChangeShapes Go.WideShapes Go.ChangeAt
def contig (L : Lay) : List (Nat × TypeId) → Nat → Nat → Bool
 |[],o,tot => Nat.beq o tot
 |(off,T) :: fs,o,tot => match L T with | some r => Nat.beq off o && contig L fs (o + r.size) tot | none => false
def plainT (L : Lay) : Nat → TypeId → Bool
 |0,_ => false
 |n + 1,T => match L T with
  |some r => (match r.sh with
   |.bool | .int _ | .str => true
   |.sl e => (match L e with | some re => Nat.blt 0 re.size && plainT L n e | none => false)
   |.st fs => contig L fs 0 r.size && fs.all (fun f => plainT L n f.2)
   |_ => false)
  |none => false
def tyP (L : Lay) : Nat → TypeId → List PV → Prop
 |0,_,_ => False
 |n + 1,T,cs => ∃ r,L T = some r ∧ (match r.sh with
  |.bool => ∃ b,cs = [.bool b]
  |.int k => ∃ m,cs = [.int k m] ∧ k.min ≤ m ∧ m ≤ k.max
  |.str => ∃ s : List UInt8,cs = [.str s] ∧ s.length ≤ maxLen
  |.sl e => ∃ rows,cs = [.sl rows] ∧ rows.length ≤ maxLen ∧ ∀ row ∈ rows,tyP L n e row
  |.st fs => ∃ parts : List (List PV),cs = parts.flatten ∧ parts.length = fs.length ∧ ∀ (i : Nat) f p,fs[i]? = some f → parts[i]? = some p → tyP L n f.2 p
  |_ => False)
section
variable {L : Lay} {n : Nat} {T : TypeId} {cs : List PV}
theorem tyP_sh {r : LRow} {sh : Sh} (hr : L T = some r) (hs : (L T).map (·.sh) = some sh) : r.sh = sh := by rw [hr] at hs;exact Option.some.inj hs
theorem tyP_strB (h : tyP L (n + 1) T cs) (hs : (L T).map (·.sh) = some .str) : ∃ s : List UInt8,cs = [.str s] ∧ s.length ≤ maxLen := by
 obtain ⟨r,hr,h⟩ := h
 rw [tyP_sh hr hs] at h;exact h
theorem tyP_str (h : tyP L (n + 1) T cs) (hs : (L T).map (·.sh) = some .str) : ∃ s,cs = [.str s] := let ⟨m,e,_⟩ := tyP_strB h hs;⟨m,e⟩
theorem tyP_slB {e : TypeId} (h : tyP L (n + 1) T cs) (hs : (L T).map (·.sh) = some (.sl e)) : ∃ rows,cs = [.sl rows] ∧ rows.length ≤ maxLen ∧ ∀ row ∈ rows,tyP L n e row := by
 obtain ⟨r,hr,h⟩ := h
 rw [tyP_sh hr hs] at h;exact h
theorem tyP_sl {e : TypeId} (h : tyP L (n + 1) T cs) (hs : (L T).map (·.sh) = some (.sl e)) : ∃ rows,cs = [.sl rows] ∧ ∀ row ∈ rows,tyP L n e row := let ⟨m,e,_,h⟩ := tyP_slB h hs;⟨m,e,h⟩
end
def Reads (w : World) (pvs : List PV) (cs : List Value) : Prop :=
 pvs.length = cs.length ∧ ∀ (i : Nat) (c : PV) (v : Value),pvs[i]? = some c → cs[i]? = some v → DRep w (fun b => b < w.heap.size) c v ∧ v.oneCell' = true
theorem Reads.append {w : World} {p1 p2 : List PV} {c1 c2 : List Value} (h1 : Reads w p1 c1) (h2 : Reads w p2 c2) : Reads w (p1 ++ p2) (c1 ++ c2) := by
 refine ⟨by simp [h1.1,h2.1],fun i c v e1 e2 => ?_⟩
 rw [List.getElem?_append] at e1 e2
 split at e1
 ·rename_i hlt
  rw [if_pos (by rw [← h1.1];exact hlt)] at e2
  exact h1.2 i c v e1 e2
 ·rename_i hlt
  rw [if_neg (by rw [← h1.1];exact hlt),← h1.1] at e2
  exact h2.2 _ c v e1 e2
section
variable {H : Type} {enc : TypeId × Value → H} {P : Program} {L : Lay} {w : World} {sp : Nat → Bool} {held : Bool}
theorem cellsOf_eq (hL : LOk P L) {T : TypeId} {r : LRow} (hr : L T = some r) : P.cellsOf T = r.size := by
 obtain ⟨i,d,hi,_,hs,_⟩ := LRow.spec (hL T r hr)
 simp [Program.cellsOf,hi,hs]
theorem contig_le : ∀ (fs : List (Nat × TypeId)) (o tot : Nat),contig L fs o tot = true → o ≤ tot
 |[],o,tot,h => by simp [contig] at h;omega
 |(off,T) :: fs,o,tot,h => by
  simp only [contig] at h
  split at h
  ·rename_i r hr
   simp only [Bool.and_eq_true] at h
   have := contig_le fs _ _ h.2
   omega
  ·cases h
theorem dec_fields (hL : LOk P L) {n : Nat} {cs : List Value}
  (IH : ∀ (T : TypeId) (cs : List Value) (fuel : Nat) x,plainT L n T = true → DataW.trod enc P w 0 sp held fuel T cs = some x → ∃ pvs,Reads w pvs cs ∧ tyP L n T pvs) :
  ∀ (fs : List (Nat × TypeId)) (o : Nat),contig L fs o cs.length = true → fs.all (fun f => plainT L n f.2) = true →
   (∀ f ∈ fs,∃ m x,DataW.trod enc P w 0 sp held m f.2 ((cs.drop f.1).take (P.cellsOf f.2)) = some x) →
   ∃ parts : List (List PV),Reads w parts.flatten (cs.drop o) ∧ parts.length = fs.length ∧ ∀ (i : Nat) f p,fs[i]? = some f → parts[i]? = some p → tyP L n f.2 p
 |[],o,h,_,_ => by
  simp [contig] at h
  refine ⟨[],⟨by simp [h],fun i c v e => by simp at e⟩,rfl,fun i f p e => by simp at e⟩
 |(off,T) :: fs,o,h,hall,hd => by
  simp only [contig] at h
  split at h
  ·rename_i r hr
   simp only [Bool.and_eq_true,Nat.beq_eq] at h
   obtain ⟨rfl,h⟩ := h
   simp only [List.all_cons,Bool.and_eq_true] at hall
   have hle := contig_le fs _ _ h
   obtain ⟨m,x,hx⟩ := hd (off,T) (by simp)
   obtain ⟨pvs,hp1,hp2⟩ := IH T _ m x hall.1 hx
   obtain ⟨parts,g1,g2,g3⟩ := dec_fields hL IH fs (off + r.size) h hall.2 (fun f hf => hd f (by simp [hf]))
   rw [cellsOf_eq hL hr] at hp1
   refine ⟨pvs :: parts,?_,by simp [g2],fun i f p e1 e2 => ?_⟩
   ·have hsplit : cs.drop off = (cs.drop off).take r.size ++ cs.drop (off + r.size) := by rw [← List.drop_drop,List.take_append_drop]
    rw [hsplit,List.flatten_cons]
    exact hp1.append g1
   ·cases i with
    |zero => simp at e1 e2;subst e1;subst e2;exact hp2
    |succ i => exact g3 i f p (by simpa using e1) (by simpa using e2)
  ·cases h
theorem trod_dec (hL : LOk P L) : ∀ (n : Nat) (T : TypeId) (cs : List Value) (fuel : Nat) (x : DataW H × List MemPlace),plainT L n T = true → DataW.trod enc P w 0 sp held fuel T cs = some x → ∃ pvs,Reads w pvs cs ∧ tyP L n T pvs
 |0,_,_,_,_,h,_ => by simp [plainT] at h
 |n + 1,T,cs,fuel,x,h,ht => by
  simp only [plainT] at h
  split at h
  ·rename_i r hr
   have hfit := hL T r hr
   have one : ∀ {c : PV} {v : Value},DRep w (fun b => b < w.heap.size) c v → v.oneCell' = true → Reads w [c] [v] := fun h1 h2 => ⟨rfl,fun i c v e1 e2 => by
    cases i with
    |zero => simp at e1 e2;subst e1;subst e2;exact ⟨h1,h2⟩
    |succ i => simp at e1⟩
   split at h
   ·rename_i hs
    obtain ⟨b,rfl,_⟩ := DataW.trod_bool (und_bool hfit hs) ht
    exact ⟨[.bool b],one (.bool b) rfl,r,hr,by rw [hs];exact ⟨b,rfl⟩⟩
   ·rename_i k hs
    obtain ⟨m,rfl,_,hwf⟩ := DataW.trod_int (und_int hfit hs) ht
    simp only [Lit.wf,Bool.and_eq_true,decide_eq_true_eq] at hwf
    exact ⟨[.int k m],one (.int k m) rfl,r,hr,by rw [hs];exact ⟨m,rfl,hwf⟩⟩
   ·rename_i hs
    obtain ⟨s,rfl,_,hsz⟩ := DataW.trod_string (und_str hfit hs) ht
    exact ⟨[.str s.data.toList],one (.str s.data.toList) rfl,r,hr,by rw [hs];exact ⟨_,rfl,by rw [Array.length_toList];exact hsz⟩⟩
   ·rename_i e hs
    split at h
    ·rename_i re hre
     simp only [Bool.and_eq_true] at h
     have hsz : 0 < re.size := by simpa using h.1
     have hce := cellsOf_eq hL hre
     rcases DataW.trod_slice (und_sl hfit hs) ht with ⟨rfl,_⟩ | ⟨a,len,cap,elems,rest,m,rfl,rfl,_,_,hlc,hcm,hel,hat,_⟩
     ·exact ⟨[.sl []],one (.sl0 none 0) rfl,r,hr,by rw [hs];exact ⟨[],rfl,Nat.zero_le _,fun row hrow => by cases hrow⟩⟩
     ·rw [hce] at hat
      have key : ∀ i,i < len → ∃ ecs,w.cells? 0 (a.add (i * re.size)) re.size = some ecs ∧ ∃ pvs,Reads w pvs ecs ∧ tyP L n e pvs := by
       intro i hi
       have h1 := hat i hi
       rw [List.getElem?_eq_getElem (by omega)] at h1
       obtain ⟨ecs,e1,e2⟩ := Option.bind_eq_some_iff.1 h1
       obtain ⟨pvs,g1,g2⟩ := trod_dec hL n e ecs m _ h.2 e2
       exact ⟨ecs,e1,pvs,g1,g2⟩
      by_cases h0 : len = 0
      ·subst h0
       exact ⟨[.sl []],one (.sl0 _ _) rfl,r,hr,by rw [hs];exact ⟨[],rfl,Nat.zero_le _,fun row hrow => by cases hrow⟩⟩
      ·
       have cellAt : ∀ (i : Nat) ecs,w.cells? 0 (a.add (i * re.size)) re.size = some ecs → ecs.length = re.size ∧ ∀ j v,ecs[j]? = some v → w.cell? ((a.add (i * re.size)).add j) = some v := by
        intro i ecs he
        unfold World.cells? at he
        rw [if_pos (Nat.zero_le _)] at he
        refine ⟨by simpa using mapM_some_length he,fun j v hv => ?_⟩
        have hj : j < re.size := by have := mapM_some_length he;have := (List.getElem?_eq_some_iff.1 hv).1;simp at *;omega
        have := mapM_some_get he j j (by simp [hj])
        rw [hv] at this
        exact this
       obtain ⟨b,off,spot⟩ := a
       obtain ⟨ecs0,f1,pvs0,f2,_⟩ := key 0 (by omega)
       obtain ⟨f3,f4⟩ := cellAt 0 ecs0 f1
       have hc0 : ∃ v,w.cell? (((⟨b,off,spot⟩ : Addr).add (0 * re.size)).add 0) = some v := ⟨ecs0[0],f4 0 _ (List.getElem?_eq_getElem (by omega))⟩
       have hspot : spot = none := by
        obtain ⟨v,hv⟩ := hc0
        simpa [Addr.add] using World.cell?_spot hv
       subst hspot
       have hbl : b < w.heap.size := by
        obtain ⟨v,hv⟩ := hc0
        simp only [Nat.zero_mul,Addr.add_mk,Nat.add_zero] at hv
        rcases Nat.lt_or_ge b w.heap.size with hlt | hge
        ·exact hlt
        ·simp [World.cell?,Array.getElem?_eq_none hge] at hv
       have hch : ∀ i : Nat,∃ p : List PV × List Value,i < len → w.cells? 0 ((⟨b,off,none⟩ : Addr).add (i * re.size)) re.size = some p.2 ∧ Reads w p.1 p.2 ∧ tyP L n e p.1 := by
        intro i
        by_cases hi : i < len
        ·obtain ⟨ecs,e1,pvs,e2,e3⟩ := key i hi
         exact ⟨(pvs,ecs),fun _ => ⟨e1,e2,e3⟩⟩
        ·exact ⟨([],[]),fun h => absurd h hi⟩
       let g : Nat → List PV × List Value := fun i => Classical.choose (hch i)
       have hg : ∀ i,i < len → w.cells? 0 ((⟨b,off,none⟩ : Addr).add (i * re.size)) re.size = some (g i).2 ∧ Reads w (g i).1 (g i).2 ∧ tyP L n e (g i).1 := fun i hi => Classical.choose_spec (hch i) hi
       have hrow : ∀ (i : Nat) (row : List PV),((List.range len).map fun i => (g i).1)[i]? = some row → i < len ∧ row = (g i).1 := by
        intro i row hrow
        rw [List.getElem?_map] at hrow
        rcases Nat.lt_or_ge i len with hlt | hge
        ·rw [List.getElem?_range hlt] at hrow
         simp at hrow
         exact ⟨hlt,hrow.symm⟩
        ·rw [List.getElem?_eq_none (by simpa using hge)] at hrow
         simp at hrow
       have hmem : ∀ row ∈ (List.range len).map fun i => (g i).1,∃ i,i < len ∧ row = (g i).1 := by
        intro row hrow
        obtain ⟨i,hi,rfl⟩ := List.mem_map.1 hrow
        exact ⟨i,List.mem_range.1 hi,rfl⟩
       have hlen : ((List.range len).map fun i => (g i).1).length = len := by simp
       have hlen' : ∀ i,i < len → (g i).1.length = re.size := fun i hi => by
        rw [(hg i hi).2.1.1];exact (cellAt i _ (hg i hi).1).1
       have hD : DRep w (fun b => b < w.heap.size) (.sl ((List.range len).map fun i => (g i).1)) (.slice (some ⟨b,off,none⟩) len cap) := by
        have := DRep.sl (w := w) (ok := fun b => b < w.heap.size) ((List.range len).map fun i => (g i).1) b off cap re.size (fun i j => ((g i).2[j]?).getD undef) hbl hsz (by rw [hlen];exact hlc)
         (fun row hr => by obtain ⟨i,hi,rfl⟩ := hmem row hr;exact hlen' i hi)
         (fun i j row c e1 e2 => by
          obtain ⟨hi,rfl⟩ := hrow i row e1
          have hj : j < (g i).2.length := by rw [← (hg i hi).2.1.1];exact (List.getElem?_eq_some_iff.1 e2).1
          have hv : (g i).2[j]? = some (g i).2[j] := List.getElem?_eq_getElem hj
          have := (cellAt i _ (hg i hi).1).2 j _ hv
          rw [Addr.add_mk,Addr.add_mk] at this
          rw [hv]
          exact ⟨this,((hg i hi).2.1.2 j c _ e2 hv).2⟩)
         (fun i j row c e1 e2 => by
          obtain ⟨hi,rfl⟩ := hrow i row e1
          have hj : j < (g i).2.length := by rw [← (hg i hi).2.1.1];exact (List.getElem?_eq_some_iff.1 e2).1
          have hv : (g i).2[j]? = some (g i).2[j] := List.getElem?_eq_getElem hj
          rw [hv]
          exact ((hg i hi).2.1.2 j c _ e2 hv).1)
        rw [hlen] at this
        exact this
       exact ⟨[.sl ((List.range len).map fun i => (g i).1)],one hD rfl,r,hr,by
        rw [hs]
        exact ⟨_,rfl,by rw [hlen];exact Nat.le_trans hlc hcm,fun row hr => by obtain ⟨i,hi,rfl⟩ := hmem row hr;exact (hg i hi).2.2⟩⟩
    ·cases h
   ·rename_i fs hs
    simp only [Bool.and_eq_true] at h
    obtain ⟨fs',hu,hm⟩ := und_st hfit hs
    obtain ⟨xs,m,_,_,hlen,hxl,hf⟩ := DataW.trod_struct hu ht
    rw [cellsOf_eq hL hr] at hlen
    obtain ⟨parts,g1,g2,g3⟩ := dec_fields hL (cs := cs) (fun T cs fuel x a b => trod_dec hL n T cs fuel x a b) fs 0 (by rw [hlen];exact h.1) h.2 (fun f hf' => by
     rw [← hm] at hf'
     obtain ⟨fd,hfd,rfl⟩ := List.mem_map.1 hf'
     obtain ⟨i,hi,hie⟩ := List.getElem_of_mem hfd
     have hi' : i < fs'.size := by simpa using hi
     have h1 : fs'[i]? = some fd := by rw [Array.getElem?_eq_getElem hi'];simpa using hie
     have h2 := hf i fd h1
     rw [List.getElem?_eq_getElem (by omega)] at h2
     exact ⟨m,_,h2⟩)
    exact ⟨parts.flatten,by simpa using g1,r,hr,by rw [hs];exact ⟨parts,rfl,g2,g3⟩⟩
   ·cases h
  ·cases h
def argP (L : Lay) (T : TypeId) (c : PV) : Prop := match L T with
 |some r => bif r.sh.agg then ∃ cs,c = .agg cs ∧ tyP L 6 T cs else tyP L 6 T [c]
 |none => False
theorem arg_dec (hL : LOk P L) {base : Nat} {T : TypeId} {v : Value} {d : DataW H} {ps : List MemPlace} (hp : plainT L 6 T = true) (h : DataW.Trod enc P w 0 sp held T v d ps) (hok : Value.okWide P w .any base T v) : ∃ c,DRep w (fun b => b < w.heap.size) c v ∧ argP L T c := by
 obtain ⟨fuel,h⟩ := h
 obtain ⟨pvs,h1,h2⟩ := trod_dec hL 6 T _ fuel _ hp h
 have hp' := hp
 simp only [plainT] at hp
 split at hp
 ·rename_i r hr
  have hfit := hL T r hr
  have leaf : r.sh.agg = false → (∃ c,pvs = [c]) → (v.cells.toList.length = 1 → v.cells = #[v]) → ∃ c,DRep w (fun b => b < w.heap.size) c v ∧ argP L T c := by
   rintro ha ⟨c,rfl⟩ hv
   have hc := hv (by rw [← h1.1];rfl)
   have hd := h1.2 0 c v rfl (by rw [hc];rfl)
   refine ⟨c,hd.1,?_⟩
   unfold argP
   rw [hr]
   simp only [ha,cond_false]
   exact h2
  have nagg : (∀ cs,v ≠ .agg cs) → v.cells = #[v] := by
   intro h
   cases v <;> first | rfl | exact absurd rfl (h _)
  have hty : ∃ r',L T = some r' ∧ _ := h2
  obtain ⟨r',hr',hty⟩ := hty
  rw [hr] at hr'
  have hr' := Option.some.inj hr'
  subst hr'
  split at hp
  ·rename_i hs
   rw [hs] at hty
   obtain ⟨b,rfl⟩ := hty
   obtain ⟨b',rfl⟩ : ∃ b',v = .bool b' := by
    have := okWide_bool (und_bool hfit hs) hok;exact this
   exact leaf (by rw [hs];rfl) ⟨_,rfl⟩ (fun _ => rfl)
  ·rename_i k hs
   rw [hs] at hty
   obtain ⟨m,rfl,_⟩ := hty
   obtain ⟨m',rfl⟩ := okWide_int (und_int hfit hs) hok
   exact leaf (by rw [hs];rfl) ⟨_,rfl⟩ (fun _ => rfl)
  ·rename_i hs
   rw [hs] at hty
   obtain ⟨s,rfl,_⟩ := hty
   obtain ⟨s',rfl⟩ := okWide_string (und_str hfit hs) hok
   exact leaf (by rw [hs];rfl) ⟨_,rfl⟩ (fun _ => rfl)
  ·rename_i e hs
   rw [hs] at hty
   obtain ⟨rows,rfl,_⟩ := hty
   obtain ⟨a,l,c,rfl⟩ := okWide_slice (und_sl hfit hs) hok
   exact leaf (by rw [hs];rfl) ⟨_,rfl⟩ (fun _ => rfl)
  ·rename_i fs hs
   obtain ⟨fs',hu,_⟩ := und_st hfit hs
   obtain ⟨cs,rfl,_⟩ := okWide_struct hu hok
   refine ⟨.agg pvs,?_,?_⟩
   ·have := DRep.agg (w := w) (ok := fun b => b < w.heap.size) pvs cs.toList h1.1 (fun i c v e1 e2 => (h1.2 i c v e1 e2).1)
    simpa using this
   ·unfold argP
    rw [hr]
    simp only [hs,Sh.agg,cond_true]
    exact ⟨pvs,rfl,h2⟩
  ·cases hp
 ·cases hp
theorem args_dec (hL : LOk P L) {base : Nat} : ∀ (ts : List TypeId) (vs : List Value) (ds : List (DataW H)) (ps : List MemPlace),ts.all (plainT L 6) = true → DataW.TrodAll enc P w 0 sp held ts vs ds ps →
  (∀ (j : Nat) t v,ts[j]? = some t → vs[j]? = some v → Value.okWide P w .any base t v) →
  ∃ pargs : List PV,pargs.length = vs.length ∧ ts.length = vs.length ∧ ds.length = vs.length ∧ (∀ (i : Nat) (c : PV) (v : Value),pargs[i]? = some c → vs[i]? = some v → DRep w (fun b => b < w.heap.size) c v) ∧ ∀ (i : Nat) t c,ts[i]? = some t → pargs[i]? = some c → argP L t c
 |[],vs,ds,ps,_,h,_ => by
  obtain ⟨rfl,rfl,_⟩ := trodAll_nil h
  exact ⟨[],rfl,rfl,rfl,fun i c v e => by simp at e,fun i t c e => by simp at e⟩
 |t :: ts,vs,ds,ps,hp,h,hok => by
  obtain ⟨v,vs',d,ds',p,q,rfl,rfl,rfl,h1,h2⟩ := trodAll_cons h
  simp only [List.all_cons,Bool.and_eq_true] at hp
  obtain ⟨c,g1,g2⟩ := arg_dec hL hp.1 h1 (hok 0 t v rfl rfl)
  obtain ⟨pargs,e1,e2,e3,e4,e5⟩ := args_dec hL ts vs' ds' q hp.2 h2 (fun j t v a b => hok (j + 1) t v (by simpa using a) (by simpa using b))
  refine ⟨c :: pargs,by simp [e1],by simp [e2],by simp [e3],fun i c' v' a b => ?_,fun i t' c' a b => ?_⟩
  ·cases i with
   |zero => simp at a b;subst a;subst b;exact g1
   |succ i => exact e4 i c' v' (by simpa using a) (by simpa using b)
  ·cases i with
   |zero => simp at a b;subst a;subst b;exact g2
   |succ i => exact e5 i t' c' (by simpa using a) (by simpa using b)
theorem trodAll_below (hl : laidOutB P = true) {W W' : World} (hb : Below W.heap.size W W') : ∀ (ts : List TypeId) (vs : List Value) (ds : List (DataW H)) (ps : List MemPlace),(∀ t ∈ ts,P.readableRec t = true ∧ t < P.types.size) →
  DataW.TrodAll enc P W 0 (fun _ => true) true ts vs ds ps → (∀ x ∈ ps,x.block < W.heap.size) → DataW.TrodAll enc P W' 0 (fun b => decide (b < W.heap.size)) true ts vs ds ps
 |[],vs,ds,ps,_,h,_ => by
  obtain ⟨rfl,rfl,rfl⟩ := trodAll_nil h
  exact trodAll_mk0
 |t :: ts,vs,ds,ps,hr,h,hlt => by
  obtain ⟨v,vs',d,ds',p,q,rfl,rfl,rfl,h1,h2⟩ := trodAll_cons h
  have ht := hr t (by simp)
  exact ⟨p,q,Below.trod hl ht.1 ht.2 h1 hb (fun x hx => hlt x (by simp [hx])),trodAll_below hl hb ts vs' ds' q (fun t ht => hr t (by simp [ht])) h2 (fun x hx => hlt x (by simp [hx])),rfl⟩
theorem law_step [Globs] (hL : LOk P L) (hl : laidOutB P = true) {f : FuncId} {fn : Func} {s : ChangeSpec} {ts : List TypeId} {T : TypeId} (hvars : s.vars = []) (hts : fn.params.toList = ts) (hplain : ts.all (plainT L 6) = true)
  (hread : ts.all (fun t => P.readableRec t && decide (t < P.types.size)) = true) (hres : fn.resultTypes = #[T]) (hT : P.underlying T = some .bool)
  (hspec : ∀ ds : List (DataW H),ds.length = ts.length → (s.fn H ds).results = [.lit (.bool true)] ∧ (s.fn H ds).args = ds ∧ (s.fn H ds).vars = [])
  (law : ∀ pargs : List PV,pargs.length = ts.length → (∀ (i : Nat) t c,ts[i]? = some t → pargs[i]? = some c → argP L t c) → Ret P .shared f pargs (.bool true))
  {W : World} {base : Nat} {args : Array Value} {ds gs : List (DataW H)} {before : List MemPlace} (hval : ∀ (j : Nat) t v,fn.params[j]? = some t → args[j]? = some v → Value.okWide P W .any base t v)
  (hglob : Globs.glob W) (hW : DataW.Whole enc P fn.params.toList s.vars false W args.toList ds gs before) :
  Calls P f args W fun e W' => ∃ v,e = .returned v ∧ s.post enc P fn false true false false W args v W' := by
 have hW' := hW
 obtain ⟨p,q,hA,hV,hpq,hfz,hnd⟩ := hW
 rw [hvars] at hV
 obtain ⟨rfl,rfl⟩ := trodVars_none hV
 rw [hts] at hA
 obtain ⟨pargs,e1,e2,e3,e4,e5⟩ := args_dec hL (base := base) ts _ _ _ hplain hA (fun j t v a b => hval j t v (by rw [← hts] at a;simpa using a) (by simpa using b))
 have hret := law pargs (by omega) e5
 have hcall := hret.2 W (fun _ => False) args.toList hglob (fun b hb => hb.elim) (by omega) (fun i c v a b => (e4 i c v a b).weaken fun b hb => ⟨hb,fun h => h⟩)
 have hargs : args.toList.toArray = args := by simp
 rw [hargs] at hcall
 refine hcall.mono ?_
 rintro e W' ⟨v,rfl,hb,hd⟩
 refine ⟨v,rfl,?_⟩
 have hv : v = .bool true := by cases hd;rfl
 subst hv
 have hlt : ∀ x ∈ p,x.block < W.heap.size := fun x hx => by
  have := hW'.lt x (by rw [hpq];simp [hx])
  simpa using this
 obtain ⟨s1,s2,s3⟩ := hspec ds (by omega)
 have hgs : ds ++ ([] : List (DataW H)) = ds := List.append_nil ds
 refine ⟨ds,[],before,[],p,[],hW',?_,?_,?_,World.keptBut_mono (fun x hx => hx.elim) (hb.frame (fun _ => False)),fun h => by cases h⟩
 ·rw [hgs,s1,hres]
  exact trodAll_mk1 (shut_bool hT true)
 ·rw [hgs,s2,hts]
  exact trodAll_below hl hb ts _ _ _ (fun t ht => by
   have := List.all_eq_true.1 hread t ht
   simpa using this) hA hlt
 ·rw [hgs,s3,hvars]
  exact rfl
end
end Go.Pv


set_option maxHeartbeats 2000000
namespace Go.Pv
attribute [local irreducible] PWP POps PQuiet PSem XThen XBlock RetPost InlPost
open Go.Proofs Go.RowKit
section
variable {P : Program} {L : Lay} {s : St} {T T' : TypeId} {d : Nat} {x lo hi : Operand} {r : LRow} {ty : TypeId} {pos : String} {af : Array Edge} {g : Option (Nat × Bool)}
theorem wrapW {m : Sem Value} {P : Program} {w : World} {v : Value} (h : m.run P w = .ok v w) : (do pure (Next.value (← m)) : Sem Next).run P w = .ok (.value v) w := by simp [h]
theorem bytes_cut (l : List UInt8) (a b : Nat) : (⟨l.toArray⟩ : ByteArray).extract a b = ⟨((l.drop a).take (b - a)).toArray⟩ := by
 apply ByteArray.ext
 rw [ByteArray.data_extract,List.extract_toArray,List.extract_eq_take_drop]
theorem q_ssl [Globs] {kl kh : IntKind} {a b : Int} {l : List UInt8} (hL : LOk P L) (hr : L T = some r) (hs : r.sh = .str) (hx : s.ev x = .str l) (hlo : s.ev lo = .int kl a) (hhi : s.ev hi = .int kh b) (h0 : 0 ≤ a) (h1 : a ≤ b) (h2 : b ≤ l.length) :
  QOp P L s ⟨some d,.slice T x (some lo) (some hi) none,ty,pos,af,g⟩ (.str ((l.drop a.toNat).take (b.toNat - a.toNat))) := by
 refine .semF (v := .string ⟨((l.drop a.toNat).take (b.toNat - a.toNat)).toArray⟩) (by simp [Op.operands]) (fun y hy => ?_) (fun ev w _ he => ?_) fun _ _ => .str _
 ·simp [Op.operands] at hy
  rcases hy with rfl | rfl | rfl
  ·rw [hx];exact ⟨_,rfl⟩
  ·rw [hlo];exact ⟨_,rfl⟩
  ·rw [hhi];exact ⟨_,rfl⟩
 ·have e1 := he x (by simp [Op.operands])
  have e2 := he lo (by simp [Op.operands])
  have e3 := he hi (by simp [Op.operands])
  rw [hx] at e1
  rw [hlo] at e2
  rw [hhi] at e3
  have e1 : ev x = .string ⟨l.toArray⟩ := (Option.some.inj e1).symm
  have e2 : ev lo = .int kl a := (Option.some.inj e2).symm
  have e3 : ev hi = .int kh b := (Option.some.inj e3).symm
  have hu : P.underlying T = some .string := und_str (hL T r hr) hs
  have hsz : (⟨l.toArray⟩ : ByteArray).size = l.length := by simp [ByteArray.size]
  simp only [execOp,Option.map_some,Option.map_none,e1,e2,e3]
  refine wrapW ?_
  rw [run_sliceAt_string w _ _ _ _ _ hu]
  have eb : (b.toNat : Int) = b := by omega
  simp [Instr.slice,run_underlying hu,Instr.sliceBounds,run_sliceBound,hsz,bytes_cut,h0,h1,h2,eb,(by omega : 0 ≤ b)]
theorem q_ifN0 [Globs] {ms : Array (String × TypeId)} (hu : P.underlying T = some (.interface ms)) (hx : s.ev x = .raw .nilIface) :
  QOp P L s ⟨some d,.binOp .neq T x (.const .nilIface) T',ty,pos,af,g⟩ (.bool false) := by
 refine .semF (v := .bool false) (by simp [Op.operands]) (fun y hy => ?_) (fun ev w _ he => ?_) fun _ _ => .bool _
 ·simp [Op.operands] at hy
  rcases hy with rfl | rfl
  ·rw [hx];exact ⟨_,rfl⟩
  ·exact ⟨_,rfl⟩
 ·have e1 := he x (by simp [Op.operands])
  have e2 := he (.const .nilIface) (by simp [Op.operands])
  rw [hx] at e1
  have e1 : ev x = .nilIface := (Option.some.inj e1).symm
  have e2 : ev (.const .nilIface) = .nilIface := (Option.some.inj e2).symm
  simp only [execOp,e1,e2]
  refine wrapW ?_
  have hg : eqGuard .neq T x (.const .nilIface) .nilIface .nilIface = pure () := by cases x <;> rfl
  rw [hg]
  have h : ∀ d : Nat,(Op.equalIn (d + 1) T .nilIface .nilIface).run P w = .ok true w := fun d => by simp [Op.equalIn,run_underlying hu]
  simp only [Sem.run_bind,Sem.run_pure,Result.andThen_ok,binOp]
  simp [Op.equal,Op.maxDepth,h 9999]
theorem q_ifN1 [Globs] {ms : Array (String × TypeId)} {t : TypeId} {u : Value} (hu : P.underlying T = some (.interface ms)) (hx : s.ev x = .raw (.iface t u)) :
  QOp P L s ⟨some d,.binOp .neq T x (.const .nilIface) T',ty,pos,af,g⟩ (.bool true) := by
 refine .semF (v := .bool true) (by simp [Op.operands]) (fun y hy => ?_) (fun ev w _ he => ?_) fun _ _ => .bool _
 ·simp [Op.operands] at hy
  rcases hy with rfl | rfl
  ·rw [hx];exact ⟨_,rfl⟩
  ·exact ⟨_,rfl⟩
 ·have e1 := he x (by simp [Op.operands])
  have e2 := he (.const .nilIface) (by simp [Op.operands])
  rw [hx] at e1
  have e1 : ev x = .iface t u := (Option.some.inj e1).symm
  have e2 : ev (.const .nilIface) = .nilIface := (Option.some.inj e2).symm
  simp only [execOp,e1,e2]
  refine wrapW ?_
  have hg : eqGuard .neq T x (.const .nilIface) (.iface t u) .nilIface = pure () := rfl
  rw [hg]
  have h : ∀ d : Nat,(Op.equalIn (d + 1) T (.iface t u) .nilIface).run P w = .ok false w := fun d => by simp [Op.equalIn,run_underlying hu]
  simp only [Sem.run_bind,Sem.run_pure,Result.andThen_ok,binOp]
  simp [Op.equal,Op.maxDepth,h 9999]
end
end Go.Pv


set_option maxHeartbeats 2000000
namespace Go.Pv
attribute [local irreducible] PWP POps PQuiet PSem XThen XBlock RetPost InlPost
open Go.Proofs
theorem ex_bal : balV exL exO = [I 5000,I 0,I 3000,I 3000,I 0,I 3000] := by
 have h1 : sumI (accP exL exO) (·.est) (accP exL exO).length = 5000 := by decide +kernel
 have h2 : sumI (accP exL exO) (·.gro) (accP exL exO).length = 0 := by decide +kernel
 have h3 : sumI (accP exL exO) (·.chg) (accP exL exO).length = 3000 := by decide +kernel
 have h4 : sumI (accP exL exO) (·.bil) (accP exL exO).length = 3000 := by decide +kernel
 have h5 : payK exL exO exL.length = 0 := by decide +kernel
 simp only [balV,h1,h2,h3,h4,h5]
 rfl
theorem balT : eqT Tryz.prog 106 [.int .i64,.int .i64,.int .i64,.int .i64,.int .i64,.int .i64] = true := by decide +kernel
set_option maxRecDepth 20000 in
theorem awake_ret : Ret Tryz.prog .shared 11 [] (.bool true) := by
 have hld := load_ret exL (by decide)
 obtain ⟨e1,e2,e3⟩ := exL_acc.lod
 rw [e1,e2,e3] at hld
 have hb := balance_ret exL exL_acc exO
 rw [if_pos (by decide),ex_bal] at hb
 have hf := format_ret ⟨3,1,exO,exI,[],[97,110,110],3000,0,0⟩ (by decide)
 rw [exText] at hf
 have hx : exL[2]? = some ⟨3,1,exO,exI,[],[97,110,110],3000,0,0⟩ := rfl
 refine Ret.of_pwp layOk mixed Go.Proofs.Tryz.func11 rfl (by decide) rfl rfl ?_
 repeat refine stq rfl ?_
 refine qst rfl rfl (q_cf rfl example_ret rfl rfl) ?_
 repeat refine stq rfl ?_
 refine qst rfl rfl (q_cf rfl hld rfl rfl) ?_
 repeat refine stq rfl ?_
 refine qst rfl rfl (q_cf rfl hb rfl rfl) ?_
 repeat refine stq rfl ?_
 refine qst rfl rfl (q_cf rfl example_ret rfl rfl) ?_
 repeat refine stq rfl ?_
 refine qst rfl rfl (q_idxmF rfl rfl rfl rfl rfl (by omega) hx rfl) ?_
 repeat refine stq rfl ?_
 refine qst rfl rfl (q_cp rfl hf rfl rfl rfl) ?_
 repeat refine stq rfl ?_
 refine qst rfl rfl (q_seqE balT rfl rfl rfl) ?_
 repeat refine stq rfl ?_
 exact end1b rfl rfl rfl
end Go.Pv


set_option maxHeartbeats 2000000
namespace Go.Pv
attribute [local irreducible] PWP POps PQuiet PSem XThen XBlock RetPost InlPost
open Go.Proofs
theorem decD_small {u : Nat} (h : u < 10) : Lib.decDigits u = [UInt8.ofNat (48 + u)] := by rw [Lib.decDigits,dif_pos h]
theorem decD_big {u : Nat} (h : ¬ u < 10) : Lib.decDigits u = Lib.decDigits (u / 10) ++ [UInt8.ofNat (48 + u % 10)] := by rw [Lib.decDigits,dif_neg h]
def DecI (u0 : Nat) (k : Nat × List UInt8) : Prop := k.1 ≤ u0 ∧ k.2.length ≤ u0 - k.1 + 1 ∧ ((k.2 = [] ∧ k.1 = u0) ∨ (k.2 ≠ [] ∧ k.1 < u0 ∧ Lib.decDigits u0 = (if k.1 = 0 then k.2 else Lib.decDigits k.1 ++ k.2)) ∨ (k.2 ≠ [] ∧ u0 = 0 ∧ k.1 = 0 ∧ Lib.decDigits u0 = k.2))
theorem DecI.step {u0 : Nat} {k : Nat × List UInt8} (h : DecI u0 k) (hc : k.2 = [] ∨ 0 < k.1) : DecI u0 (k.1 / 10,UInt8.ofNat (48 + k.1 % 10) :: k.2) := by
 obtain ⟨u,acc⟩ := k
 obtain ⟨h1,h2,h3⟩ := h
 simp only at h1 h2 h3 hc ⊢
 rcases h3 with ⟨rfl,rfl⟩ | ⟨g1,g2,g3⟩ | ⟨g1,g2,g3,g4⟩
 ·by_cases h0 : u = 0
  ·subst h0
   exact ⟨by simp,by simp,.inr (.inr ⟨by simp,rfl,rfl,by rw [decD_small (by omega)]⟩)⟩
  ·refine ⟨by simp only;omega,by (simp <;> omega),.inr (.inl ⟨by simp,by simp only;omega,?_⟩)⟩
   by_cases hs : u < 10
   ·rw [if_pos (by simp only;omega),decD_small hs,show u % 10 = u by omega]
   ·rw [if_neg (by simp only;omega),decD_big hs]
 ·have hu : 0 < u := hc.resolve_left g1
  rw [if_neg (by omega)] at g3
  refine ⟨by simp only;omega,by (simp <;> omega),.inr (.inl ⟨by simp,by simp only;omega,?_⟩)⟩
  rw [g3]
  by_cases hs : u < 10
  ·rw [if_pos (by simp only;omega),decD_small hs,show u % 10 = u by omega];rfl
  ·rw [if_neg (by simp only;omega),decD_big hs];simp
 ·have hu : 0 < u := hc.resolve_left g1
  omega
theorem DecI.done {u0 : Nat} {k : Nat × List UInt8} (h : DecI u0 k) (hc : ¬ (k.2 = [] ∨ 0 < k.1)) : k.2 = Lib.decDigits u0 := by
 obtain ⟨h1,h2,h3⟩ := h
 have e1 : k.2 ≠ [] := fun e => hc (.inl e)
 have e2 : k.1 = 0 := by
  rcases Nat.eq_zero_or_pos k.1 with h | h
  ·exact h
  ·exact absurd (.inr h) hc
 rcases h3 with ⟨g,_⟩ | ⟨_,_,g⟩ | ⟨_,_,_,g⟩
 ·exact absurd g e1
 ·rw [g,if_pos e2]
 ·rw [g]
theorem DecI.less {k : Nat × List UInt8} {c : UInt8} (hc : k.2 = [] ∨ 0 < k.1) : k.1 / 10 + (if (c :: k.2) = [] then 1 else 0) < k.1 + (if k.2 = [] then 1 else 0) := by
 rw [if_neg (by simp)]
 rcases hc with hc | hc
 ·rw [if_pos hc];omega
 ·split <;> omega
theorem digit_cut (d : Nat) (h : d < 10) : (([48,49,50,51,52,53,54,55,56,57] : List UInt8).drop d).take 1 = [UInt8.ofNat (48 + d)] := by
 have : ∀ i : Fin 10,(([48,49,50,51,52,53,54,55,56,57] : List UInt8).drop i.val).take 1 = [UInt8.ofNat (48 + i.val)] := by decide
 exact this ⟨d,h⟩
theorem dec_pos (u : Nat) (hu : u ≤ 1000000000000000) : Ret Tryz.prog .shared 57 [I u] (.str (Lib.decDigits u)) := by
 refine Ret.of_pwp layOk mixed Go.Proofs.Tryz.func57 rfl (by decide) rfl rfl ?_
 repeat refine stq rfl ?_
 refine pw_loop (DecI u) (fun k => [(0,I k.1),(3,.str k.2)]) (fun _ => []) (fun k => k.1 + (if k.2 = [] then 1 else 0)) (u,[]) ⟨Nat.le_refl _,by simp,.inl ⟨rfl,rfl⟩⟩ ⟨rfl,rfl,trivial⟩ ?_
 intro k s hk
 have hk1 := hk.1
 have hk2 := hk.2.1
 repeat refine stq rfl ?_
 have htm : ((k.1 : Int)).tmod 10 = ((k.1 % 10 : Nat) : Int) := by rw [Int.tmod_eq_emod_of_nonneg (by omega)];omega
 have hw1 : IntKind.wrap .i64 (((k.1 % 10 : Nat) : Int) + 1) = ((k.1 % 10 + 1 : Nat) : Int) := by rw [wrap_i64 (by omega) (by omega)];omega
 have htd : IntKind.wrap .i64 ((k.1 : Int).tdiv 10) = ((k.1 / 10 : Nat) : Int) := by rw [Int.tdiv_eq_ediv_of_nonneg (by omega),wrap_i64 (by omega) (by omega)];omega
 have hdc : ((([48,49,50,51,52,53,54,55,56,57] : List UInt8).drop (((k.1 % 10 : Nat) : Int).toNat)).take (((k.1 % 10 + 1 : Nat) : Int).toNat - ((k.1 % 10 : Nat) : Int).toNat)) = [UInt8.ofNat (48 + k.1 % 10)] := by
  rw [Int.toNat_natCast,Int.toNat_natCast,show k.1 % 10 + 1 - k.1 % 10 = 1 by omega]
  exact digit_cut _ (by omega)
 (first|refine ps_split rfl rfl ?_ ?_|refine pq_split rfl rfl ?_ ?_|refine p3_split rfl rfl ?_ ?_)<;>intro h
 ·have hc : k.2 = [] ∨ 0 < k.1 := .inl (by simpa using h)
  clear h
  repeat refine stq rfl ?_
  refine ps_v rfl (show ¬ (10 : Int) = 0 by decide) ?_
  rw [htm]
  repeat refine stq rfl ?_
  refine ps_v rfl (show ¬ (10 : Int) = 0 by decide) ?_
  rw [htm]
  repeat refine stq rfl ?_
  rw [hw1]
  refine qst rfl rfl (q_ssl layOk rfl rfl rfl rfl rfl (by omega) (by omega) (by show ((k.1 % 10 + 1 : Nat) : Int) ≤ ((10 : Nat) : Int);omega)) ?_
  rw [hdc]
  repeat refine stq rfl ?_
  refine ps_v rfl (show ((([UInt8.ofNat (48 + k.1 % 10)] : List UInt8).length : Nat) : Int) + (k.2.length : Nat) ≤ 9223372036854775807 by simp;omega) ?_
  repeat refine stq rfl ?_
  refine ps_v rfl (show ¬ (10 : Int) = 0 by decide) ?_
  rw [htd]
  repeat refine stq rfl ?_
  exact ⟨(k.1 / 10,UInt8.ofNat (48 + k.1 % 10) :: k.2),hk.step hc,DecI.less hc,rfl,rfl,trivial⟩
 ·have h1 : ¬ k.2 = [] := by simpa using h
  clear h
  repeat refine stq rfl ?_
  refine pw_cond rfl (fun h => ?_) (fun h => ?_)
  ·have hc : k.2 = [] ∨ 0 < k.1 := .inr (by have := of_decide_eq_true h;omega)
   clear h
   repeat refine stq rfl ?_
   refine ps_v rfl (show ¬ (10 : Int) = 0 by decide) ?_
   rw [htm]
   repeat refine stq rfl ?_
   refine ps_v rfl (show ¬ (10 : Int) = 0 by decide) ?_
   rw [htm]
   repeat refine stq rfl ?_
   rw [hw1]
   refine qst rfl rfl (q_ssl layOk rfl rfl rfl rfl rfl (by omega) (by omega) (by show ((k.1 % 10 + 1 : Nat) : Int) ≤ ((10 : Nat) : Int);omega)) ?_
   rw [hdc]
   repeat refine stq rfl ?_
   refine ps_v rfl (show ((([UInt8.ofNat (48 + k.1 % 10)] : List UInt8).length : Nat) : Int) + (k.2.length : Nat) ≤ 9223372036854775807 by simp;omega) ?_
   repeat refine stq rfl ?_
   refine ps_v rfl (show ¬ (10 : Int) = 0 by decide) ?_
   rw [htd]
   repeat refine stq rfl ?_
   exact ⟨(k.1 / 10,UInt8.ofNat (48 + k.1 % 10) :: k.2),hk.step hc,DecI.less hc,rfl,rfl,trivial⟩
  ·have hc : ¬ (k.2 = [] ∨ 0 < k.1) := by
    rintro (h' | h')
    ·exact h1 h'
    ·have := of_decide_eq_false h;omega
   have hd := hk.done hc
   repeat refine stq rfl ?_
   exact end1 rfl rfl rfl trivial (by rw [hd])
theorem dec_len (u : Nat) (hu : u ≤ 1000000000000000) : (Lib.decDigits u).length ≤ 1000000000000002 := by
 have key : ∀ (n u : Nat),u ≤ n → (Lib.decDigits u).length ≤ u + 1 := fun n => by
  induction n with
  |zero => intro u h;rw [decD_small (by omega)];simp
  |succ n ih =>
   intro u h
   by_cases hs : u < 10
   ·rw [decD_small hs];simp
   ·rw [decD_big hs]
    have := ih (u / 10) (by omega)
    simp;omega
 have := key u u (Nat.le_refl _)
 omega
theorem decimal_ret (n : Int) (h0 : -1000000000000000 ≤ n) (h1 : n ≤ 1000000000000000) : Ret Tryz.prog .shared 57 [I n] (.str (Lib.itoa n)) := by
 by_cases hn : n < 0
 ·have hd := dec_pos n.natAbs (by omega)
  have hw : IntKind.wrap .i64 (0 - n) = (n.natAbs : Int) := by rw [wrap_i64 (by omega) (by omega)];omega
  have hlen := dec_len n.natAbs (by omega)
  rw [Lib.itoa,if_pos hn]
  refine Ret.of_pwp layOk mixed Go.Proofs.Tryz.func57 rfl (by decide) rfl rfl ?_
  repeat refine stq rfl ?_
  refine pw_cond rfl (fun h => ?_) (fun h => ?_)
  ·repeat refine stq rfl ?_
   rw [hw]
   refine qst rfl rfl (q_cp rfl hd rfl rfl rfl) ?_
   refine ps_v rfl (show ((([45] : List UInt8).length : Nat) : Int) + ((Lib.decDigits n.natAbs).length : Nat) ≤ 9223372036854775807 by simp;omega) ?_
   repeat refine stq rfl ?_
   exact end1 rfl rfl rfl trivial rfl
  ·exact absurd (of_decide_eq_false h) (by omega)
 ·obtain ⟨u,rfl⟩ : ∃ u : Nat,n = u := ⟨n.toNat,by omega⟩
  rw [Lib.itoa,if_neg hn,Int.toNat_natCast]
  exact dec_pos u (by omega)
end Go.Pv


set_option maxHeartbeats 2000000
namespace Go.Pv
attribute [local irreducible] PWP POps PQuiet PSem XThen XBlock RetPost InlPost
open Go.Proofs
def nmS : List UInt8 → Nat → Int → Bool → Option (Int × Bool)
 |[],_,n,neg => some (n,neg)
 |c :: r,i,n,neg => if i = 0 ∧ c.toNat = 45 then nmS r (i + 1) n true else if c.toNat < 48 ∨ 57 < c.toNat ∨ 1000000000 < n then none else nmS r (i + 1) (10 * n + ((c.toNat : Int) - 48)) neg
def nmV : Option (Int × Bool) → Option Int
 |none => none
 |some (n,neg) => some (if neg = true then -n else n)
def nmR (s : List UInt8) : Int × Bool := match nmV (nmS s 0 0 false) with
 |none => (0,false)
 |some v => (v,decide (Lib.itoa v = s))
def NumI (s : List UInt8) (k : Nat × Int × Bool) : Prop := k.1 ≤ s.length ∧ nmS (s.drop k.1) k.1 k.2.1 k.2.2 = nmS s 0 0 false ∧ 0 ≤ k.2.1 ∧ k.2.1 ≤ 10000000009
theorem number_ret (s : List UInt8) (hs : s.length ≤ 1000000) : Ret Tryz.prog .shared 66 [.str s] (.tup [I (nmR s).1,.bool (nmR s).2]) := by
 refine Ret.of_pwp layOk mixed Go.Proofs.Tryz.func66 rfl (by decide) rfl rfl ?_
 repeat refine stq rfl ?_
 refine pw_loop (NumI s) (fun k => [(0,.str s),(4,I k.2.1),(5,.bool k.2.2),(6,I k.1)]) (fun _ => []) (fun k => s.length - k.1) (0,0,false) ⟨Nat.zero_le _,rfl,by simp,by simp⟩ ⟨rfl,rfl,rfl,rfl,trivial⟩ ?_
 rintro ⟨i,n,neg⟩ st ⟨hi,hinv,hn0,hn1⟩
 simp only at hi hinv hn0 hn1
 dsimp only
 repeat refine stq rfl ?_
 refine pw_cond rfl (fun h => ?_) (fun h => ?_)
 ·have hlt : i < s.length := by have := of_decide_eq_true h;omega
  clear h
  have hdr : s.drop i = s[i] :: s.drop (i + 1) := List.drop_eq_getElem_cons hlt
  have hci : s.getD ((i : Int).toNat) 0 = s[i] := by rw [Int.toNat_natCast,List.getD_eq_getElem?_getD,List.getElem?_eq_getElem hlt];rfl
  rw [hdr,nmS] at hinv
  have hcu : s[i].toNat < 256 := s[i].toNat_lt
  generalize s[i] = c at *
  by_cases hm : i = 0 ∧ c.toNat = 45
  ·rw [if_pos hm] at hinv
   obtain ⟨rfl,hc⟩ := hm
   repeat refine stq rfl ?_
   refine qst rfl rfl (QOp.v rfl (show 0 ≤ ((0 : Nat) : Int) ∧ ((0 : Nat) : Int) < (s.length : Nat) by omega)) ?_
   rw [hci,hc]
   repeat refine stq rfl ?_
   exact ⟨(1,n,true),⟨by simp only;omega,hinv,hn0,hn1⟩,by simp only;omega,rfl,rfl,rfl,rfl,trivial⟩
  ·rw [if_neg hm] at hinv
   have hfail : (c.toNat < 48 ∨ 57 < c.toNat ∨ 1000000000 < n) → nmR s = (0,false) := fun hf => by
    rw [if_pos hf] at hinv
    rw [nmR,← hinv];rfl
   have hgo : ¬ ((c.toNat : Int) < 48) → ¬ (57 < (c.toNat : Int)) → ¬ (1000000000 < n) → nmS (s.drop (i + 1)) (i + 1) (10 * n + ((c.toNat : Int) - 48)) neg = nmS s 0 0 false := fun a b d => by
    rw [if_neg (by omega)] at hinv;exact hinv
   clear hinv
   by_cases h0 : i = 0
   ·subst h0
    have hc : ¬ (c.toNat : Int) = 45 := fun e => hm ⟨rfl,by omega⟩
    repeat refine stq rfl ?_
    refine qst rfl rfl (QOp.v rfl (show 0 ≤ ((0 : Nat) : Int) ∧ ((0 : Nat) : Int) < (s.length : Nat) by omega)) ?_
    rw [hci]
    repeat refine stq rfl ?_
    refine pw_cond rfl (fun h => ?_) (fun h => ?_)
    ·exact absurd (of_decide_eq_true h) hc
    clear h
    repeat refine stq rfl ?_
    refine qst rfl rfl (QOp.v rfl (show 0 ≤ ((0 : Nat) : Int) ∧ ((0 : Nat) : Int) < (s.length : Nat) by omega)) ?_
    rw [hci]
    repeat refine stq rfl ?_
    (first|refine ps_split rfl rfl ?_ ?_|refine pq_split rfl rfl ?_ ?_|refine p3_split rfl rfl ?_ ?_)<;>intro h
    ·have c1 := of_decide_eq_true h
     have hend : nmR s = (0,false) := hfail (.inl (by omega))
     repeat refine stq rfl ?_
     exact end2 rfl rfl rfl rfl rfl trivial trivial (by rw [hend])
    have c1 := of_decide_eq_false h
    clear h
    repeat refine stq rfl ?_
    refine qst rfl rfl (QOp.v rfl (show 0 ≤ ((0 : Nat) : Int) ∧ ((0 : Nat) : Int) < (s.length : Nat) by omega)) ?_
    rw [hci]
    repeat refine stq rfl ?_
    (first|refine ps_split rfl rfl ?_ ?_|refine pq_split rfl rfl ?_ ?_|refine p3_split rfl rfl ?_ ?_)<;>intro h
    ·have c2 := of_decide_eq_true h
     have hend : nmR s = (0,false) := hfail (.inr (.inl (by omega)))
     repeat refine stq rfl ?_
     exact end2 rfl rfl rfl rfl rfl trivial trivial (by rw [hend])
    have c2 := of_decide_eq_false h
    clear h
    repeat refine stq rfl ?_
    refine pw_cond rfl (fun h => ?_) (fun h => ?_)
    ·have c3 := of_decide_eq_true h
     have hend : nmR s = (0,false) := hfail (.inr (.inr c3))
     repeat refine stq rfl ?_
     exact end2 rfl rfl rfl rfl rfl trivial trivial (by rw [hend])
    have c3 := of_decide_eq_false h
    clear h
    have hgo := hgo c1 c2 c3
    have hw1 : IntKind.wrap .i64 (10 * n) = 10 * n := wrap_i64 (by omega) (by omega)
    have hw2 : IntKind.wrap .u8 ((c.toNat : Int) - 48) = (c.toNat : Int) - 48 := by simp [IntKind.wrap,IntKind.bits,IntKind.signed];omega
    have hw3 : IntKind.wrap .i64 ((c.toNat : Int) - 48) = (c.toNat : Int) - 48 := wrap_i64 (by omega) (by omega)
    have hw4 : IntKind.wrap .i64 (10 * n + ((c.toNat : Int) - 48)) = 10 * n + ((c.toNat : Int) - 48) := wrap_i64 (by omega) (by omega)
    repeat refine stq rfl ?_
    rw [hw1]
    refine qst rfl rfl (QOp.v rfl (show 0 ≤ ((0 : Nat) : Int) ∧ ((0 : Nat) : Int) < (s.length : Nat) by omega)) ?_
    rw [hci]
    repeat refine stq rfl ?_
    rw [hw2,hw3,hw4]
    repeat refine stq rfl ?_
    exact ⟨(1,10 * n + ((c.toNat : Int) - 48),neg),⟨by simp only;omega,hgo,by simp only;omega,by simp only;omega⟩,by simp only;omega,rfl,rfl,rfl,i64_next (by omega) (by omega),trivial⟩
   ·repeat refine stq rfl ?_
    (first|refine ps_split rfl rfl ?_ ?_|refine pq_split rfl rfl ?_ ?_|refine p3_split rfl rfl ?_ ?_)<;>intro h
    ·exact absurd (of_decide_eq_true h) (by omega)
    clear h
    repeat refine stq rfl ?_
    refine qst rfl rfl (QOp.v rfl (show 0 ≤ (i : Int) ∧ (i : Int) < (s.length : Nat) by omega)) ?_
    rw [hci]
    repeat refine stq rfl ?_
    (first|refine ps_split rfl rfl ?_ ?_|refine pq_split rfl rfl ?_ ?_|refine p3_split rfl rfl ?_ ?_)<;>intro h
    ·have c1 := of_decide_eq_true h
     have hend : nmR s = (0,false) := hfail (.inl (by omega))
     repeat refine stq rfl ?_
     exact end2 rfl rfl rfl rfl rfl trivial trivial (by rw [hend])
    have c1 := of_decide_eq_false h
    clear h
    repeat refine stq rfl ?_
    refine qst rfl rfl (QOp.v rfl (show 0 ≤ (i : Int) ∧ (i : Int) < (s.length : Nat) by omega)) ?_
    rw [hci]
    repeat refine stq rfl ?_
    (first|refine ps_split rfl rfl ?_ ?_|refine pq_split rfl rfl ?_ ?_|refine p3_split rfl rfl ?_ ?_)<;>intro h
    ·have c2 := of_decide_eq_true h
     have hend : nmR s = (0,false) := hfail (.inr (.inl (by omega)))
     repeat refine stq rfl ?_
     exact end2 rfl rfl rfl rfl rfl trivial trivial (by rw [hend])
    have c2 := of_decide_eq_false h
    clear h
    repeat refine stq rfl ?_
    refine pw_cond rfl (fun h => ?_) (fun h => ?_)
    ·have c3 := of_decide_eq_true h
     have hend : nmR s = (0,false) := hfail (.inr (.inr c3))
     repeat refine stq rfl ?_
     exact end2 rfl rfl rfl rfl rfl trivial trivial (by rw [hend])
    have c3 := of_decide_eq_false h
    clear h
    have hgo := hgo c1 c2 c3
    have hw1 : IntKind.wrap .i64 (10 * n) = 10 * n := wrap_i64 (by omega) (by omega)
    have hw2 : IntKind.wrap .u8 ((c.toNat : Int) - 48) = (c.toNat : Int) - 48 := by simp [IntKind.wrap,IntKind.bits,IntKind.signed];omega
    have hw3 : IntKind.wrap .i64 ((c.toNat : Int) - 48) = (c.toNat : Int) - 48 := wrap_i64 (by omega) (by omega)
    have hw4 : IntKind.wrap .i64 (10 * n + ((c.toNat : Int) - 48)) = 10 * n + ((c.toNat : Int) - 48) := wrap_i64 (by omega) (by omega)
    repeat refine stq rfl ?_
    rw [hw1]
    refine qst rfl rfl (QOp.v rfl (show 0 ≤ (i : Int) ∧ (i : Int) < (s.length : Nat) by omega)) ?_
    rw [hci]
    repeat refine stq rfl ?_
    rw [hw2,hw3,hw4]
    repeat refine stq rfl ?_
    exact ⟨(i + 1,10 * n + ((c.toNat : Int) - 48),neg),⟨by simp only;omega,hgo,by simp only;omega,by simp only;omega⟩,by simp only;omega,rfl,rfl,rfl,i64_next (by omega) (by omega),trivial⟩
 ·have hz : i = s.length := by have := of_decide_eq_false h;omega
  subst hz
  rw [List.drop_length,nmS] at hinv
  have hend : nmR s = (if neg = true then -n else n,decide (Lib.itoa (if neg = true then -n else n) = s)) := by rw [nmR,← hinv];rfl
  have hd1 := decimal_ret n (by omega) (by omega)
  have hd2 := decimal_ret (-n) (by omega) (by omega)
  have hw : IntKind.wrap .i64 (0 - n) = -n := by rw [wrap_i64 (by omega) (by omega)];omega
  cases neg with
  |true =>
   repeat refine stq rfl ?_
   rw [hw]
   repeat refine stq rfl ?_
   refine qst rfl rfl (q_cp rfl hd2 rfl rfl rfl) ?_
   repeat refine stq rfl ?_
   exact end2 rfl rfl rfl rfl rfl trivial trivial (by rw [hend];rfl)
  |false =>
   repeat refine stq rfl ?_
   refine qst rfl rfl (q_cp rfl hd1 rfl rfl rfl) ?_
   repeat refine stq rfl ?_
   exact end2 rfl rfl rfl rfl rfl trivial trivial (by rw [hend];rfl)
end Go.Pv


set_option maxHeartbeats 2000000
namespace Go.Pv
attribute [local irreducible] PWP POps PQuiet PSem XThen XBlock RetPost InlPost
open Go.Proofs
def cutS (a : UInt8) (out : List Str) (c : UInt8) : List Str := if c.toNat = a.toNat then out ++ [[]] else out.set (out.length - 1) (out.getD (out.length - 1) [] ++ [c])
def cutK (s : Str) (a : UInt8) : Nat → List Str
 |0 => [[]]
 |k + 1 => cutS a (cutK s a k) (s.getD k 0)
theorem cutS_len {a : UInt8} {out : List Str} {c : UInt8} (h : 0 < out.length) : 0 < (cutS a out c).length ∧ (cutS a out c).length ≤ out.length + 1 := by
 rw [cutS]
 split
 ·simp
 ·simp;omega
theorem cutK_len (s : Str) (a : UInt8) : ∀ k,0 < (cutK s a k).length ∧ (cutK s a k).length ≤ k + 1
 |0 => by simp [cutK]
 |k + 1 => by
  have ih := cutK_len s a k
  have := cutS_len (a := a) (c := s.getD k 0) ih.1
  rw [cutK]
  omega
theorem cutK_piece (s : Str) (a : UInt8) : ∀ (k : Nat) (x : Str),x ∈ cutK s a k → x.length ≤ k
 |0,x,h => by simp [cutK] at h;subst h;simp
 |k + 1,x,h => by
  have ih := cutK_piece s a k
  have hl := cutK_len s a k
  rw [cutK,cutS] at h
  split at h
  ·rcases List.mem_append.1 h with h | h
   ·have := ih x h;omega
   ·simp at h;subst h;simp
  ·rcases List.mem_or_eq_of_mem_set h with h | h
   ·have := ih x h;omega
   ·subst h
    have : (cutK s a k).getD ((cutK s a k).length - 1) [] ∈ cutK s a k := by
     rw [List.getD_eq_getElem?_getD,List.getElem?_eq_getElem (by omega)]
     exact List.getElem_mem _
    have := ih _ this
    simp at this ⊢;omega
set_option maxRecDepth 20000 in
theorem cut_ret (s : Str) (a : UInt8) (hs : s.length ≤ 1000000) : Ret Tryz.prog .fresh 45 [.str s,.int .u8 a.toNat] (.sl ((cutK s a s.length).map eS)) := by
 refine Ret.of_pwp layOk mixed Go.Proofs.Tryz.func45 rfl (by decide) rfl rfl ?_
 repeat refine stq rfl ?_
 refine ps_run (o_slit 0 rfl rfl rfl rfl rfl rfl rfl rfl rfl rfl rfl (by repeat' constructor) rfl ?_)
 repeat refine stq rfl ?_
 refine pw_loop (fun (k : Nat × Nat) => k.1 ≤ s.length) (fun k => [(0,.str s),(1,.int .u8 a.toNat),(5,.als 7 k.2 0 ((cutK s a k.1).map eS).length),(6,I k.1)]) (fun k => [(7,k.2,⟨9,1,(cutK s a k.1).map eS,0⟩)]) (fun k => s.length - k.1) (0,1) (Nat.zero_le _) ⟨rfl,rfl,rfl,rfl,rfl,trivial⟩ ?_
 rintro ⟨i,g⟩ st hi
 have hi : i ≤ s.length := hi
 have hl := cutK_len s a i
 have hp := cutK_piece s a i
 dsimp only
 repeat refine stq rfl ?_
 refine pw_cond rfl (fun h => ?_) (fun h => ?_)
 ·have hlt : i < s.length := by have := of_decide_eq_true h;omega
  clear h
  have hci : s.getD ((i : Int).toNat) 0 = s.getD i 0 := by rw [Int.toNat_natCast]
  have hst : cutK s a (i + 1) = cutS a (cutK s a i) (s.getD i 0) := rfl
  have hcut : (s.drop ((i : Nat) : Int).toNat).take (((i + 1 : Nat) : Int).toNat - ((i : Nat) : Int).toNat) = [s.getD i 0] := by
   rw [Int.toNat_natCast,Int.toNat_natCast,show i + 1 - i = 1 by omega,List.drop_eq_getElem_cons hlt,List.getD_eq_getElem?_getD,List.getElem?_eq_getElem hlt];rfl
  rw [cutS] at hst
  generalize s.getD i 0 = c at *
  generalize cutK s a i = S at *
  have hSl : ((S.map eS).length : Int) = S.length := by simp
  repeat refine stq rfl ?_
  refine qst rfl rfl (QOp.v rfl (show 0 ≤ (i : Int) ∧ (i : Int) < (s.length : Nat) by omega)) ?_
  rw [hci]
  repeat refine stq rfl ?_
  refine pw_cond rfl (fun h => ?_) (fun h => ?_)
  ·have hc : c.toNat = a.toNat := by have := of_decide_eq_true h;omega
   rw [if_pos hc] at hst
   repeat refine stq rfl ?_
   refine qst rfl rfl (q_slit rfl rfl rfl rfl rfl rfl rfl rfl rfl rfl (by repeat' constructor) rfl) ?_
   repeat refine stq rfl ?_
   refine ps_run (o_app 0 rfl rfl rfl rfl rfl rfl rfl rfl rfl rfl rfl (by repeat' constructor) (by intro row hr;first | (simp at hr;subst hr;rfl) | simp at hr) rfl rfl (by simp;omega) (by simp;omega) ?_)
   repeat refine stq rfl ?_
   refine ⟨(i + 1,g + 1),hlt,by show s.length - (i + 1) < s.length - i;omega,rfl,rfl,?_,i64_next (by omega) (by omega),?_,trivial⟩
   ·rw [hst,List.map_append];rfl
   ·rw [hst,List.map_append];rfl
  ·have hc : ¬ c.toNat = a.toNat := by have := of_decide_eq_false h;omega
   rw [if_neg hc] at hst
   clear h
   have hw : IntKind.wrap .i64 ((S.length : Int) - 1) = ((S.length - 1 : Nat) : Int) := by rw [wrap_i64 (by omega) (by omega)];omega
   have hw2 : IntKind.wrap .i64 ((i : Int) + 1) = ((i + 1 : Nat) : Int) := by rw [wrap_i64 (by omega) (by omega)];omega
   have hg : S[0 + ((S.length - 1 : Nat) : Int).toNat]? = some (S.getD (S.length - 1) []) := by
    rw [Nat.zero_add,Int.toNat_natCast,List.getD_eq_getElem?_getD,List.getElem?_eq_getElem (by omega)];rfl
   have hrow : (S.map eS)[0 + ((S.length - 1 : Nat) : Int).toNat]? = some (eS (S.getD (S.length - 1) [])) := by rw [List.getElem?_map,hg];rfl
   have hpl : (S.getD (S.length - 1) []).length ≤ i := hp _ (List.mem_of_getElem? hg)
   generalize S.getD (S.length - 1) [] = q at *
   repeat refine stq rfl ?_
   refine pw_draw 17 [22,23,24,25,26,27,28,29,30,31,32,33,34,35,36,37,38] (by decide +kernel) ?_
   repeat refine stq rfl ?_
   rw [hSl,hw]
   repeat refine stq rfl ?_
   refine qst rfl rfl (q_idxA rfl rfl rfl rfl rfl rfl rfl (by omega) (by omega)) ?_
   repeat refine stq rfl ?_
   refine qst rfl rfl (q_ldp rfl rfl rfl hrow rfl) ?_
   repeat refine stq rfl ?_
   rw [hw2]
   refine qst rfl rfl (q_ssl layOk rfl rfl rfl rfl rfl (by omega) (by omega) (by omega)) ?_
   rw [hcut]
   refine qst rfl rfl (QOp.v rfl (show ((q.length : Nat) : Int) + ((([c] : List UInt8).length : Nat) : Int) ≤ 9223372036854775807 by simp;omega)) ?_
   repeat refine stq rfl ?_
   refine qst rfl rfl (q_idxA rfl rfl rfl rfl rfl rfl rfl (by omega) (by omega)) ?_
   repeat refine stq rfl ?_
   refine ps_run0 (o_storeM (enc := eS) (q ++ [c]) (kd' := 0) rfl rfl rfl hg rfl rfl ⟨trivial,trivial⟩ rfl rfl rfl rfl rfl ?_)
   repeat refine stq rfl ?_
   refine ⟨(i + 1,g),hlt,by show s.length - (i + 1) < s.length - i;omega,rfl,rfl,?_,i64_next (by omega) (by omega),?_,trivial⟩
   ·rw [hst];show PV.als 7 g 0 (S.map eS).length = PV.als 7 g 0 ((S.set _ _).map eS).length
    rw [List.length_map,List.length_map,List.length_set]
   ·rw [hst]
    show (g,some (Cont.mk 9 1 ((S.set (0 + ((S.length - 1 : Nat) : Int).toNat) (q ++ [c])).map eS) 0)) = _
    rw [Nat.zero_add,Int.toNat_natCast]
 ·have hz : i = s.length := by have := of_decide_eq_false h;omega
  subst hz
  repeat refine stq rfl ?_
  exact end1f rfl rfl rfl ⟨rfl,rfl,rfl⟩ rfl
end Go.Pv


set_option maxHeartbeats 2000000
namespace Go.Pv
attribute [local irreducible] PWP POps PQuiet PSem XThen XBlock RetPost InlPost
open Go.Proofs
theorem format_fail (p : SPost) (hc : ¬ checkE p = 0) : Ret Tryz.prog .shared 12 [.agg (ePost p)] (.tup [.str [],I (checkE p)]) := by
 have h1 := checkPost_ret p
 generalize checkE p = e at *
 refine Ret.of_pwp layOk mixed Go.Proofs.Tryz.func12 rfl (by decide) rfl rfl ?_
 repeat refine stq rfl ?_
 refine qst rfl rfl (q_cp rfl h1 rfl rfl rfl) ?_
 repeat refine stq rfl ?_
 refine pw_cond rfl (fun h => ?_) (fun h => ?_)
 ·repeat refine stq rfl ?_
  exact end2 rfl rfl rfl rfl rfl trivial trivial rfl
 ·exact absurd (by simpa using h) hc
def fmtK (p : SPost) (k : Nat) : Str := Lib.itoa p.day ++ Lib.joinTail [32] (wordOf p.op :: ((fdsOf p.op).take k).map (Fd.out p))
theorem fmtK_text (p : SPost) : fmtK p (fdsOf p.op).length = textP p := by
 rw [fmtK,textP,outL,List.cons_append,Lib.join_cons];rfl
theorem fmtK_succ {p : SPost} {k : Nat} {f : Fd} (hf : (fdsOf p.op)[k]? = some f) : fmtK p (k + 1) = fmtK p k ++ ([32] ++ f.out p) := by
 rw [fmtK,fmtK,take_snoc hf]
 simp [Lib.joinTail]
theorem out_len {p : SPost} (hc : checkE p = 0) {k : Nat} {f : Fd} (hf : (fdsOf p.op)[k]? = some f) : (f.out p).length ≤ 1000000010 := by
 have := num_lim hc hf
 cases f
 case a => exact itoa_len this.1 this.2
 case r => exact itoa_len this.1 this.2
 case l => exact itoa_len this.1 this.2
 all_goals (have h' : (_ : Nat) ≤ 12 := this;exact Nat.le_trans h' (by omega))
theorem fmtK_len {p : SPost} (hc : checkE p = 0) : ∀ k,k ≤ (fdsOf p.op).length → (fmtK p k).length ≤ (k + 2) * 1000000011
 |0,_ => by
  have h1 := checkE_op hc
  have hd : (Lib.itoa p.day).length ≤ 1000000010 := by
   have := h1.2.1
   simp only [inside,Bool.and_eq_true,decide_eq_true_eq] at this
   exact itoa_len (by omega) (by omega)
  have hw : (wordOf p.op).length ≤ 1000000010 := by
   rcases op_cases h1.1 with h | h | h | h | h | h | h | h | h <;> rw [h] <;> decide
  simp [fmtK,Lib.joinTail];omega
 |k + 1,hk => by
  obtain ⟨f,hf⟩ := get_lt (show k < (fdsOf p.op).length by omega)
  have ih := fmtK_len hc k (by omega)
  have := out_len hc hf
  rw [fmtK_succ hf]
  simp only [List.length_append,List.length_cons,List.length_nil]
  omega
theorem words_ref : Ret Tryz.prog .fresh 58 [] (.sl (wordL.map eS)) := by
 refine Ret.of_pwp layOk mixed Go.Proofs.Tryz.func58 rfl (by decide) rfl rfl ?_
 repeat refine stq rfl ?_
 refine qst rfl rfl (q_slit rfl rfl rfl rfl rfl rfl rfl rfl rfl rfl (by repeat' constructor) rfl) ?_
 repeat refine stq rfl ?_
 exact end1f rfl rfl rfl trivial rfl
theorem word_at {op : Int} (h : inside op 0 8 = true) : wordL[op.toNat]? = some (wordOf op) := by
 rcases op_cases h with rfl | rfl | rfl | rfl | rfl | rfl | rfl | rfl | rfl <;> rfl
set_option maxRecDepth 20000 in
theorem format_ref (p : SPost) (hc : checkE p = 0) : Ret Tryz.prog .shared 13 [.agg (ePost p)] (.tup [.str (textP p),I 0]) := by
 have h17 := checkPost_ref p
 have h1 := checkE_op hc
 have hday : 0 ≤ p.day ∧ p.day ≤ 10000 := by simpa [inside] using h1.2.1
 have hopb : 0 ≤ p.op ∧ p.op ≤ 8 := by simpa [inside] using h1.1
 have hdd := decimal_ret p.day (by omega) (by omega)
 have hdl : (Lib.itoa p.day).length ≤ 1000000010 := itoa_len (by omega) (by omega)
 have hwl : (wordOf p.op).length ≤ 1000000010 := by
  rcases op_cases h1.1 with h | h | h | h | h | h | h | h | h <;> rw [h] <;> decide
 have hword := word_at h1.1
 have h59 := fields_ref p.op h1.1
 have h58 := words_ref
 have hsucc := fun (k : Nat) (f : Fd) (hf : (fdsOf p.op)[k]? = some f) => fmtK_succ hf
 have hlen := fmtK_len hc
 have hfin := fmtK_text p
 have hlim := fun (k : Nat) (f : Fd) (hf : (fdsOf p.op)[k]? = some f) => num_lim hc hf
 have h0 : fmtK p 0 = (Lib.itoa p.day ++ [32]) ++ wordOf p.op := by simp [fmtK,Lib.joinTail]
 have hfl := fdsOf_len p.op
 have h60 := text_ref p
 rw [hc] at h17
 generalize fdsOf p.op = fs at *
 generalize wordOf p.op = wd at *
 have hcl : ((fs.map Fd.chr).length : Int) = fs.length := by simp
 refine Ret.of_pwp layOk mixed Go.Proofs.Tryz.func13 rfl (by decide) rfl rfl ?_
 repeat refine stq rfl ?_
 refine qst rfl rfl (q_cp rfl h17 rfl rfl rfl) ?_
 repeat refine stq rfl ?_
 refine pw_draw 11 [13,14,15,16,17,18,19,20,21,22,5] (by decide +kernel) ?_
 repeat refine stq rfl ?_
 refine qst rfl rfl (q_cp rfl hdd rfl rfl rfl) ?_
 refine qst rfl rfl (QOp.v rfl (show (((Lib.itoa p.day).length : Nat) : Int) + ((([32] : List UInt8).length : Nat) : Int) ≤ 9223372036854775807 by simp;omega)) ?_
 repeat refine stq rfl ?_
 refine qst rfl rfl (q_cf rfl h58 rfl rfl) ?_
 repeat refine stq rfl ?_
 refine qst rfl rfl (q_idxmF rfl rfl rfl rfl rfl (by omega) hword rfl) ?_
 repeat refine stq rfl ?_
 refine qst rfl rfl (QOp.v rfl (show (((Lib.itoa p.day ++ [32]).length : Nat) : Int) + ((wd.length : Nat) : Int) ≤ 9223372036854775807 by simp;omega)) ?_
 repeat refine stq rfl ?_
 refine qst rfl rfl (q_cp rfl h59 rfl rfl rfl) ?_
 repeat refine stq rfl ?_
 refine pw_loop (fun k => k ≤ fs.length) (fun k => [(1,.ptr 1 1 0 0),(5,.str (fmtK p k)),(6,.str (fs.map Fd.chr)),(7,I k)]) (fun _ => [(1,1,⟨23,9,[ePost p],2⟩)]) (fun k => fs.length - k) 0 (Nat.zero_le _) ⟨rfl,by rw [h0];rfl,rfl,rfl,rfl,trivial⟩ ?_
 intro k s hk
 have hk : k ≤ fs.length := hk
 have hSl := hlen k hk
 repeat refine stq rfl ?_
 rw [hcl]
 refine pw_cond rfl (fun h => ?_) (fun h => ?_)
 ·have hlt : k < fs.length := by have := of_decide_eq_true h;omega
  clear h
  obtain ⟨f,hf⟩ := get_lt hlt
  have hS2 := hsucc k f hf
  have hfine := hlim k f hf
  have hidx : (fs.map Fd.chr).getD ((k : Int)).toNat 0 = f.chr := by rw [Int.toNat_natCast,List.getD_eq_getElem?_getD,List.getElem?_map,hf];rfl
  generalize fmtK p k = S at *
  have h60 := h60 f
  repeat refine stq rfl ?_
  refine qst rfl rfl (QOp.v rfl (show 0 ≤ (k : Int) ∧ (k : Int) < ((fs.map Fd.chr).length : Nat) by rw [List.length_map];omega)) ?_
  rw [hidx]
  cases f with
  |o =>
   have h60 := h60 rfl
   repeat refine stx rfl ?_
   refine pw_draw 8 [35,36,37,38,39,40,41,42] (by decide +kernel) ?_
   repeat refine stx rfl ?_
   refine qst rfl rfl (QOp.v rfl (show ((S.length : Nat) : Int) + ((([32] : List UInt8).length : Nat) : Int) ≤ 9223372036854775807 by simp;omega)) ?_
   repeat refine stx rfl ?_
   refine qst rfl rfl (QOp.v rfl (show 0 ≤ (k : Int) ∧ (k : Int) < ((fs.map Fd.chr).length : Nat) by rw [List.length_map];omega)) ?_
   rw [hidx]
   repeat refine stx rfl ?_
   refine qst rfl rfl (q_cp rfl h60 rfl rfl rfl) ?_
   refine qst rfl rfl (QOp.v rfl (show (((S ++ [32]).length : Nat) : Int) + ((p.order.length : Nat) : Int) ≤ 9223372036854775807 by have : p.order.length ≤ 12 := hfine;simp;omega)) ?_
   repeat refine stx rfl ?_
   exact ⟨k + 1,hlt,by omega,rfl,by rw [hS2];simp;rfl,rfl,i64_next (by omega) (by omega),rfl,trivial⟩
  |i =>
   have h60 := h60 rfl
   repeat refine stx rfl ?_
   refine pw_draw 8 [35,36,37,38,39,40,41,42] (by decide +kernel) ?_
   repeat refine stx rfl ?_
   refine qst rfl rfl (QOp.v rfl (show ((S.length : Nat) : Int) + ((([32] : List UInt8).length : Nat) : Int) ≤ 9223372036854775807 by simp;omega)) ?_
   repeat refine stx rfl ?_
   refine qst rfl rfl (QOp.v rfl (show 0 ≤ (k : Int) ∧ (k : Int) < ((fs.map Fd.chr).length : Nat) by rw [List.length_map];omega)) ?_
   rw [hidx]
   repeat refine stx rfl ?_
   refine qst rfl rfl (q_cp rfl h60 rfl rfl rfl) ?_
   refine qst rfl rfl (QOp.v rfl (show (((S ++ [32]).length : Nat) : Int) + ((p.item.length : Nat) : Int) ≤ 9223372036854775807 by have : p.item.length ≤ 12 := hfine;simp;omega)) ?_
   repeat refine stx rfl ?_
   exact ⟨k + 1,hlt,by omega,rfl,by rw [hS2];simp;rfl,rfl,i64_next (by omega) (by omega),rfl,trivial⟩
  |s =>
   have h60 := h60 rfl
   repeat refine stx rfl ?_
   refine pw_draw 8 [35,36,37,38,39,40,41,42] (by decide +kernel) ?_
   repeat refine stx rfl ?_
   refine qst rfl rfl (QOp.v rfl (show ((S.length : Nat) : Int) + ((([32] : List UInt8).length : Nat) : Int) ≤ 9223372036854775807 by simp;omega)) ?_
   repeat refine stx rfl ?_
   refine qst rfl rfl (QOp.v rfl (show 0 ≤ (k : Int) ∧ (k : Int) < ((fs.map Fd.chr).length : Nat) by rw [List.length_map];omega)) ?_
   rw [hidx]
   repeat refine stx rfl ?_
   refine qst rfl rfl (q_cp rfl h60 rfl rfl rfl) ?_
   refine qst rfl rfl (QOp.v rfl (show (((S ++ [32]).length : Nat) : Int) + ((p.ship.length : Nat) : Int) ≤ 9223372036854775807 by have : p.ship.length ≤ 12 := hfine;simp;omega)) ?_
   repeat refine stx rfl ?_
   exact ⟨k + 1,hlt,by omega,rfl,by rw [hS2];simp;rfl,rfl,i64_next (by omega) (by omega),rfl,trivial⟩
  |w =>
   have h60 := h60 rfl
   repeat refine stx rfl ?_
   refine pw_draw 8 [35,36,37,38,39,40,41,42] (by decide +kernel) ?_
   repeat refine stx rfl ?_
   refine qst rfl rfl (QOp.v rfl (show ((S.length : Nat) : Int) + ((([32] : List UInt8).length : Nat) : Int) ≤ 9223372036854775807 by simp;omega)) ?_
   repeat refine stx rfl ?_
   refine qst rfl rfl (QOp.v rfl (show 0 ≤ (k : Int) ∧ (k : Int) < ((fs.map Fd.chr).length : Nat) by rw [List.length_map];omega)) ?_
   rw [hidx]
   repeat refine stx rfl ?_
   refine qst rfl rfl (q_cp rfl h60 rfl rfl rfl) ?_
   refine qst rfl rfl (QOp.v rfl (show (((S ++ [32]).length : Nat) : Int) + ((p.who.length : Nat) : Int) ≤ 9223372036854775807 by have : p.who.length ≤ 12 := hfine;simp;omega)) ?_
   repeat refine stx rfl ?_
   exact ⟨k + 1,hlt,by omega,rfl,by rw [hS2];simp;rfl,rfl,i64_next (by omega) (by omega),rfl,trivial⟩
  |a lo hi =>
   have hfine : -1000000000 ≤ p.amount ∧ p.amount ≤ 1000000000 := hfine
   have hd := decimal_ret p.amount (by omega) (by omega)
   have hil : (Lib.itoa p.amount).length ≤ 1000000010 := itoa_len hfine.1 hfine.2
   repeat refine stx rfl ?_
   refine qst rfl rfl (QOp.v rfl (show ((S.length : Nat) : Int) + ((([32] : List UInt8).length : Nat) : Int) ≤ 9223372036854775807 by simp;omega)) ?_
   repeat refine stx rfl ?_
   refine qst rfl rfl (q_cp rfl hd rfl rfl rfl) ?_
   refine qst rfl rfl (QOp.v rfl (show (((S ++ [32]).length : Nat) : Int) + (((Lib.itoa p.amount).length : Nat) : Int) ≤ 9223372036854775807 by simp;omega)) ?_
   repeat refine stx rfl ?_
   exact ⟨k + 1,hlt,by omega,rfl,by rw [hS2];simp;rfl,rfl,i64_next (by omega) (by omega),rfl,trivial⟩
  |r lo hi =>
   have hfine : -1000000000 ≤ p.ref ∧ p.ref ≤ 1000000000 := hfine
   have hd := decimal_ret p.ref (by omega) (by omega)
   have hil : (Lib.itoa p.ref).length ≤ 1000000010 := itoa_len hfine.1 hfine.2
   repeat refine stx rfl ?_
   refine qst rfl rfl (QOp.v rfl (show ((S.length : Nat) : Int) + ((([32] : List UInt8).length : Nat) : Int) ≤ 9223372036854775807 by simp;omega)) ?_
   repeat refine stx rfl ?_
   refine qst rfl rfl (q_cp rfl hd rfl rfl rfl) ?_
   refine qst rfl rfl (QOp.v rfl (show (((S ++ [32]).length : Nat) : Int) + (((Lib.itoa p.ref).length : Nat) : Int) ≤ 9223372036854775807 by simp;omega)) ?_
   repeat refine stx rfl ?_
   exact ⟨k + 1,hlt,by omega,rfl,by rw [hS2];simp;rfl,rfl,i64_next (by omega) (by omega),rfl,trivial⟩
  |l lo hi =>
   have hfine : -1000000000 ≤ p.role ∧ p.role ≤ 1000000000 := hfine
   have hd := decimal_ret p.role (by omega) (by omega)
   have hil : (Lib.itoa p.role).length ≤ 1000000010 := itoa_len hfine.1 hfine.2
   repeat refine stx rfl ?_
   refine qst rfl rfl (QOp.v rfl (show ((S.length : Nat) : Int) + ((([32] : List UInt8).length : Nat) : Int) ≤ 9223372036854775807 by simp;omega)) ?_
   repeat refine stx rfl ?_
   refine qst rfl rfl (q_cp rfl hd rfl rfl rfl) ?_
   refine qst rfl rfl (QOp.v rfl (show (((S ++ [32]).length : Nat) : Int) + (((Lib.itoa p.role).length : Nat) : Int) ≤ 9223372036854775807 by simp;omega)) ?_
   repeat refine stx rfl ?_
   exact ⟨k + 1,hlt,by omega,rfl,by rw [hS2];simp;rfl,rfl,i64_next (by omega) (by omega),rfl,trivial⟩
 ·have hz : k = fs.length := by have := of_decide_eq_false h;omega
  subst hz
  repeat refine stq rfl ?_
  exact end2 rfl rfl rfl rfl rfl trivial trivial (by rw [hfin])
theorem format_refF (p : SPost) (hc : ¬ checkE p = 0) : Ret Tryz.prog .shared 13 [.agg (ePost p)] (.tup [.str [],I (checkE p)]) := by
 have h1 := checkPost_ref p
 generalize checkE p = e at *
 refine Ret.of_pwp layOk mixed Go.Proofs.Tryz.func13 rfl (by decide) rfl rfl ?_
 repeat refine stq rfl ?_
 refine qst rfl rfl (q_cp rfl h1 rfl rfl rfl) ?_
 repeat refine stq rfl ?_
 refine pw_cond rfl (fun h => ?_) (fun h => ?_)
 ·repeat refine stq rfl ?_
  exact end2 rfl rfl rfl rfl rfl trivial trivial rfl
 ·exact absurd (by simpa using h) hc
end Go.Pv


set_option maxHeartbeats 2000000
namespace Go.Pv
attribute [local irreducible] PWP POps PQuiet PSem XThen XBlock RetPost InlPost
open Go.Proofs
def zP : SPost := ⟨0,0,[],[],[],[],0,0,0⟩
def Fd.put (c : SPost) (x : Str) (n : Int) : Fd → SPost
 |.o => { c with order := x }
 |.i => { c with item := x }
 |.s => { c with ship := x }
 |.w => { c with who := x }
 |.a _ _ => { c with amount := n }
 |.r _ _ => { c with ref := n }
 |.l _ _ => { c with role := n }
def Fd.isN : Fd → Bool
 |.a _ _ | .r _ _ | .l _ _ => true
 |_ => false
def wrdK (w : Str) : Nat → Int
 |0 => -1
 |k + 1 => if wordL.getD k [] = w then (k : Int) else wrdK w k
theorem wrdK_b (w : Str) : ∀ k,-1 ≤ wrdK w k ∧ wrdK w k < k
 |0 => by simp [wrdK]
 |k + 1 => by
  have := wrdK_b w k
  rw [wrdK];split <;> omega
def setK (fs : List Fd) (l : List Str) (c : SPost) : Nat → SPost × Bool
 |0 => (c,true)
 |k + 1 => ((fs.getD k .o).put (setK fs l c k).1 (l.getD (2 + k) []) (nmR (l.getD (2 + k) [])).1,(setK fs l c k).2 && (!(fs.getD k .o).isN || (nmR (l.getD (2 + k) [])).2))
def refC2 (s : Str) (l : List Str) (op d : Int) (b : Bool) : Option SPost :=
 if op < 0 ∨ b = false then none
 else if l.length ≠ 2 + (fdsOf op).length then none
 else if (setK (fdsOf op) l ⟨op,d,[],[],[],[],0,0,0⟩ (fdsOf op).length).2 = true ∧ checkE (setK (fdsOf op) l ⟨op,d,[],[],[],[],0,0,0⟩ (fdsOf op).length).1 = 0 ∧ textP (setK (fdsOf op) l ⟨op,d,[],[],[],[],0,0,0⟩ (fdsOf op).length).1 = s then some (setK (fdsOf op) l ⟨op,d,[],[],[],[],0,0,0⟩ (fdsOf op).length).1
 else none
def opL (l : List Str) : Int := if 1 < l.length then wrdK (l.getD 1 []) 9 else -1
def refC (s : Str) : Option SPost :=
 if 200 < s.length then none
 else refC2 s (cutK s 32 s.length) (opL (cutK s 32 s.length)) (nmR ((cutK s 32 s.length).getD 0 [])).1 (nmR ((cutK s 32 s.length).getD 0 [])).2
def parV : Option SPost → PV
 |none => .tup [.agg (ePost zP),I 7]
 |some c => .tup [.agg (ePost c),I 0]
set_option maxRecDepth 20000 in
theorem parse_ref (s : Str) (hs : s.length ≤ 1000000) : Ret Tryz.prog .fresh 15 [.str s] (parV (refC s)) := by
 have hcut : Ret Tryz.prog .fresh 45 [.str s,.int .u8 32] (.sl ((cutK s 32 s.length).map eS)) := cut_ret s 32 hs
 have hcl := cutK_len s 32 s.length
 have hcp := cutK_piece s 32 s.length
 have h58 := words_ref
 by_cases hlong : 200 < s.length
 ·have hend : refC s = none := by rw [refC,if_pos hlong]
  refine Ret.of_pwp layOk mixed Go.Proofs.Tryz.func15 rfl (by decide) rfl rfl ?_
  repeat refine stq rfl ?_
  refine pw_cond rfl (fun h => ?_) (fun h => ?_)
  ·repeat refine stq rfl ?_
   exact endc2f rfl rfl rfl rfl rfl (by repeat' constructor) (by rw [hend];rfl)
  ·exact absurd (of_decide_eq_false h) (by omega)
 have hend0 : refC s = refC2 s (cutK s 32 s.length) (opL (cutK s 32 s.length)) (nmR ((cutK s 32 s.length).getD 0 [])).1 (nmR ((cutK s 32 s.length).getD 0 [])).2 := by rw [refC,if_neg hlong]
 generalize cutK s 32 s.length = l at *
 have hll : ((l.map eS).length : Int) = l.length := by simp
 have hget : ∀ j,j < l.length → l[j]? = some (l.getD j []) ∧ (l.getD j []).length ≤ 1000000 := fun j hj => by
  have e : l[j]? = some (l.getD j []) := by rw [List.getD_eq_getElem?_getD,List.getElem?_eq_getElem hj];rfl
  exact ⟨e,by have := hcp _ (List.mem_of_getElem? e);omega⟩
 refine Ret.of_pwp layOk mixed Go.Proofs.Tryz.func15 rfl (by decide) rfl rfl ?_
 repeat refine stq rfl ?_
 refine pw_cond rfl (fun h => ?_) (fun h => ?_)
 ·exact absurd (of_decide_eq_true h) (by omega)
 clear h
 repeat refine stq rfl ?_
 refine qst rfl rfl (q_cf rfl hcut rfl rfl) ?_
 repeat refine stq rfl ?_
 have hn0 := number_ret (l.getD 0 []) (hget 0 (by omega)).2
 have hx0 := (hget 0 (by omega)).1
 by_cases h1l : 1 < l.length
 case neg =>
  have hend : refC s = none := by rw [hend0,opL,if_neg h1l,refC2,if_pos (.inl (by decide))]
  generalize nmR (l.getD 0 []) = v0 at *
  obtain ⟨v0n,v0b⟩ := v0
  refine pw_loop (fun (k : Nat) => k = 0) (fun k => [(0,.str s),(2,.ptr 2 1 0 0),(3,I 0),(4,.fsl (l.map eS)),(5,.ptr 5 1 0 0),(6,I k)]) (fun k => [(2,1,⟨23,9,[ePost zP],2⟩),(5,1,⟨23,9,[ePost ⟨-1,0,[],[],[],[],0,0,0⟩],2⟩)]) (fun k => 9 - k) 0 rfl ⟨rfl,rfl,rfl,rfl,rfl,rfl,rfl,rfl,trivial⟩ ?_
  rintro k st rfl
  repeat refine stq rfl ?_
  refine qst rfl rfl (q_cf rfl h58 rfl rfl) ?_
  repeat refine stq rfl ?_
  rw [hll]
  refine pw_cond rfl (fun h => ?_) (fun h => ?_)
  ·exact absurd (of_decide_eq_true h) (by omega)
  clear h
  repeat refine stq rfl ?_
  refine qst rfl rfl (q_idxmF (n := ((0 : Int) : Int)) rfl rfl rfl rfl rfl (by omega) hx0 rfl) ?_
  repeat refine stq rfl ?_
  refine qst rfl rfl (q_cs rfl hn0 rfl rfl) ?_
  repeat refine stq rfl ?_
  exact endc2f rfl rfl rfl rfl rfl (by repeat' constructor) (by rw [hend];rfl)
 have h1x := (hget 1 h1l).1
 rw [opL,if_pos h1l] at hend0
 have hopb := wrdK_b (l.getD 1 []) 9
 generalize l.getD 1 [] = w1 at *
 have hw9 : ((wordL.map eS).length : Int) = 9 := rfl
 refine pw_loop (fun (k : Nat) => k ≤ 9) (fun k => [(0,.str s),(2,.ptr 2 1 0 0),(3,I 0),(4,.fsl (l.map eS)),(5,.ptr 5 1 0 0),(6,I k)]) (fun k => [(2,1,⟨23,9,[ePost zP],2⟩),(5,1,⟨23,9,[ePost ⟨wrdK w1 k,0,[],[],[],[],0,0,0⟩],2⟩)]) (fun k => 9 - k) 0 (by omega) ⟨rfl,rfl,rfl,rfl,rfl,rfl,rfl,rfl,trivial⟩ ?_
 intro k st hk9
 have hk9 : k ≤ 9 := hk9
 repeat refine stq rfl ?_
 refine qst rfl rfl (q_cf rfl h58 rfl rfl) ?_
 repeat refine stq rfl ?_
 (first|refine ps_split rfl rfl ?_ ?_|refine pq_split rfl rfl ?_ ?_|refine p3_split rfl rfl ?_ ?_)<;>intro h
 ·have hlt : k < 9 := by have := of_decide_eq_true h;omega
  clear h
  have hwk : wordL[k]? = some (wordL.getD k []) := by rw [List.getD_eq_getElem?_getD,List.getElem?_eq_getElem (show k < wordL.length from hlt)];rfl
  have hws : wrdK w1 (k + 1) = if wordL.getD k [] = w1 then (k : Int) else wrdK w1 k := rfl
  generalize wordL.getD k [] = wk at *
  repeat refine stq rfl ?_
  rw [hll]
  refine pw_cond rfl (fun h => ?_) (fun h => ?_)
  ·clear h
   repeat refine stq rfl ?_
   refine pw_draw 8 [33,34,35,36,37,38,39,40] (by decide +kernel) ?_
   repeat refine stq rfl ?_
   refine qst rfl rfl (q_cf rfl h58 rfl rfl) ?_
   repeat refine stq rfl ?_
   refine qst rfl rfl (q_idxmF rfl rfl rfl rfl rfl (by omega) hwk rfl) ?_
   repeat refine stq rfl ?_
   refine qst rfl rfl (q_idxmF (n := ((1 : Int) : Int)) rfl rfl rfl rfl rfl (by omega) h1x rfl) ?_
   repeat refine stq rfl ?_
   refine pw_cond rfl (fun h => ?_) (fun h => ?_)
   ·have he : wk = w1 := of_decide_eq_true h
    rw [if_pos he] at hws
    clear h
    repeat refine stq rfl ?_
    exact ⟨k + 1,hlt,by omega,rfl,rfl,rfl,rfl,rfl,i64_next (by omega) (by omega),rfl,by rw [hws];rfl,trivial⟩
   ·have he : ¬ wk = w1 := of_decide_eq_false h
    rw [if_neg he] at hws
    clear h
    repeat refine stq rfl ?_
    exact ⟨k + 1,hlt,by omega,rfl,rfl,rfl,rfl,rfl,i64_next (by omega) (by omega),rfl,by rw [hws];rfl,trivial⟩
  ·exact absurd (of_decide_eq_false h) (by omega)
 have hz : k = 9 := by have := of_decide_eq_false h;omega
 subst hz
 clear h
 generalize wrdK w1 9 = op at *
 generalize nmR (l.getD 0 []) = v0 at *
 obtain ⟨v0n,v0b⟩ := v0
 dsimp only at hend0
 repeat refine stq rfl ?_
 refine qst rfl rfl (q_idxmF (n := ((0 : Int) : Int)) rfl rfl rfl rfl rfl (by omega) hx0 rfl) ?_
 repeat refine stq rfl ?_
 refine qst rfl rfl (q_cs rfl hn0 rfl rfl) ?_
 repeat refine stq rfl ?_
 (first|refine ps_split rfl rfl ?_ ?_|refine pq_split rfl rfl ?_ ?_|refine p3_split rfl rfl ?_ ?_)<;>intro h
 ·have hop : op < 0 := of_decide_eq_true h
  have hend : refC s = none := by rw [hend0,refC2,if_pos (.inl hop)]
  clear h
  repeat refine stq rfl ?_
  exact endc2f rfl rfl rfl rfl rfl (by repeat' constructor) (by rw [hend];rfl)
 have hop : ¬ op < 0 := of_decide_eq_false h
 clear h
 cases v0b with
 |false =>
  have hend : refC s = none := by rw [hend0,refC2,if_pos (.inr rfl)]
  repeat refine stq rfl ?_
  exact endc2f rfl rfl rfl rfl rfl (by repeat' constructor) (by rw [hend];rfl)
 |true =>
 rw [refC2,if_neg (by simp;omega)] at hend0
 have hin : inside op 0 8 = true := by simp [inside];omega
 have h59 := fields_ref op hin
 have hfl := fdsOf_len op
 generalize fdsOf op = fs at *
 have hchl : ((fs.map Fd.chr).length : Int) = fs.length := by simp
 repeat refine stq rfl ?_
 refine qst rfl rfl (q_cp rfl h59 rfl rfl rfl) ?_
 repeat refine stq rfl ?_
 have hw0 : IntKind.wrap .i64 (2 + (((fs.map Fd.chr).length : Nat) : Int)) = ((2 + fs.length : Nat) : Int) := by rw [hchl,wrap_i64 (by omega) (by omega)];omega
 rw [hll,hw0]
 refine pw_cond rfl (fun h => ?_) (fun h => ?_)
 ·have hne : l.length ≠ 2 + fs.length := fun e => by rw [e] at h;simp at h
  have hend : refC s = none := by rw [hend0,if_pos hne]
  clear h
  repeat refine stq rfl ?_
  exact endc2f rfl rfl rfl rfl rfl (by repeat' constructor) (by rw [hend];rfl)
 have hle : l.length = 2 + fs.length := by
  have : decide ((l.length : Int) = ((2 + fs.length : Nat) : Int)) = true := by simpa using h
  have := of_decide_eq_true this;omega
 clear h hw0
 rw [if_neg (by omega)] at hend0
 repeat refine stq rfl ?_
 refine pw_loop (fun (k : Nat) => k ≤ fs.length) (fun k => [(0,.str s),(2,.ptr 2 1 0 0),(4,.fsl (l.map eS)),(5,.ptr 5 1 0 0),(8,.bool (setK fs l ⟨op,v0n,[],[],[],[],0,0,0⟩ k).2),(9,.str (fs.map Fd.chr)),(10,I k)]) (fun k => [(2,1,⟨23,9,[ePost zP],2⟩),(5,1,⟨23,9,[ePost (setK fs l ⟨op,v0n,[],[],[],[],0,0,0⟩ k).1],2⟩)]) (fun k => fs.length - k) 0 (Nat.zero_le _) ⟨rfl,rfl,rfl,rfl,rfl,rfl,rfl,rfl,rfl,trivial⟩ ?_
 intro k st2 hk
 have hk : k ≤ fs.length := hk
 repeat refine stq rfl ?_
 rw [hchl]
 refine pw_cond rfl (fun h => ?_) (fun h => ?_)
 ·have hlt : k < fs.length := by have := of_decide_eq_true h;omega
  clear h
  have hsk : setK fs l ⟨op,v0n,[],[],[],[],0,0,0⟩ (k + 1) = ((fs.getD k .o).put (setK fs l ⟨op,v0n,[],[],[],[],0,0,0⟩ k).1 (l.getD (2 + k) []) (nmR (l.getD (2 + k) [])).1,(setK fs l ⟨op,v0n,[],[],[],[],0,0,0⟩ k).2 && (!(fs.getD k .o).isN || (nmR (l.getD (2 + k) [])).2)) := rfl
  have hxk := (hget (2 + k) (by omega)).1
  have hnk := number_ret (l.getD (2 + k) []) (hget (2 + k) (by omega)).2
  have hw2 : IntKind.wrap .i64 (2 + (k : Int)) = ((2 + k : Nat) : Int) := by rw [wrap_i64 (by omega) (by omega)];omega
  have hidx : (fs.map Fd.chr).getD ((k : Int)).toNat 0 = (fs.getD k .o).chr := by rw [Int.toNat_natCast,List.getD_eq_getElem?_getD,List.getElem?_map,List.getD_eq_getElem?_getD,List.getElem?_eq_getElem hlt];rfl
  generalize setK fs l ⟨op,v0n,[],[],[],[],0,0,0⟩ k = cb at *
  obtain ⟨c,ok⟩ := cb
  generalize l.getD (2 + k) [] = x at *
  generalize fs.getD k .o = f at *
  dsimp only at hsk
  dsimp only
  repeat refine stq rfl ?_
  rw [hw2]
  refine qst rfl rfl (q_idxmF (n := (((2 + k : Nat) : Int) : Int)) rfl rfl rfl rfl rfl (by omega) hxk rfl) ?_
  repeat refine stq rfl ?_
  refine qst rfl rfl (q_cs rfl hnk rfl rfl) ?_
  repeat refine stq rfl ?_
  refine qst rfl rfl (QOp.v rfl (show 0 ≤ (k : Int) ∧ (k : Int) < ((fs.map Fd.chr).length : Nat) by omega)) ?_
  rw [hidx]
  cases f with
  |o =>
   have hsk : setK fs l ⟨op,v0n,[],[],[],[],0,0,0⟩ (k + 1) = ({ c with order := x },ok) := by rw [hsk];cases ok <;> rfl
   repeat refine stq rfl ?_
   rw [hw2]
   refine qst rfl rfl (q_idxmF (n := (((2 + k : Nat) : Int) : Int)) rfl rfl rfl rfl rfl (by omega) hxk rfl) ?_
   repeat refine stq rfl ?_
   exact ⟨k + 1,hlt,by omega,rfl,rfl,rfl,rfl,by rw [hsk];rfl,rfl,i64_next (by omega) (by omega),rfl,by rw [hsk];rfl,trivial⟩
  |i =>
   have hsk : setK fs l ⟨op,v0n,[],[],[],[],0,0,0⟩ (k + 1) = ({ c with item := x },ok) := by rw [hsk];cases ok <;> rfl
   repeat refine stq rfl ?_
   rw [hw2]
   refine qst rfl rfl (q_idxmF (n := (((2 + k : Nat) : Int) : Int)) rfl rfl rfl rfl rfl (by omega) hxk rfl) ?_
   repeat refine stq rfl ?_
   exact ⟨k + 1,hlt,by omega,rfl,rfl,rfl,rfl,by rw [hsk];rfl,rfl,i64_next (by omega) (by omega),rfl,by rw [hsk];rfl,trivial⟩
  |s =>
   have hsk : setK fs l ⟨op,v0n,[],[],[],[],0,0,0⟩ (k + 1) = ({ c with ship := x },ok) := by rw [hsk];cases ok <;> rfl
   repeat refine stq rfl ?_
   rw [hw2]
   refine qst rfl rfl (q_idxmF (n := (((2 + k : Nat) : Int) : Int)) rfl rfl rfl rfl rfl (by omega) hxk rfl) ?_
   repeat refine stq rfl ?_
   exact ⟨k + 1,hlt,by omega,rfl,rfl,rfl,rfl,by rw [hsk];rfl,rfl,i64_next (by omega) (by omega),rfl,by rw [hsk];rfl,trivial⟩
  |w =>
   have hsk : setK fs l ⟨op,v0n,[],[],[],[],0,0,0⟩ (k + 1) = ({ c with who := x },ok) := by rw [hsk];cases ok <;> rfl
   repeat refine stq rfl ?_
   rw [hw2]
   refine qst rfl rfl (q_idxmF (n := (((2 + k : Nat) : Int) : Int)) rfl rfl rfl rfl rfl (by omega) hxk rfl) ?_
   repeat refine stq rfl ?_
   exact ⟨k + 1,hlt,by omega,rfl,rfl,rfl,rfl,by rw [hsk];rfl,rfl,i64_next (by omega) (by omega),rfl,by rw [hsk];rfl,trivial⟩
  |a lo hi =>
   generalize nmR x = v at *
   obtain ⟨vn,vb⟩ := v
   cases ok with
   |true =>
    repeat refine stq rfl ?_
    exact ⟨k + 1,hlt,by omega,rfl,rfl,rfl,rfl,by rw [hsk];rfl,rfl,i64_next (by omega) (by omega),rfl,by rw [hsk];rfl,trivial⟩
   |false =>
    repeat refine stq rfl ?_
    exact ⟨k + 1,hlt,by omega,rfl,rfl,rfl,rfl,by rw [hsk];rfl,rfl,i64_next (by omega) (by omega),rfl,by rw [hsk];rfl,trivial⟩
  |r lo hi =>
   generalize nmR x = v at *
   obtain ⟨vn,vb⟩ := v
   cases ok with
   |true =>
    repeat refine stq rfl ?_
    exact ⟨k + 1,hlt,by omega,rfl,rfl,rfl,rfl,by rw [hsk];rfl,rfl,i64_next (by omega) (by omega),rfl,by rw [hsk];rfl,trivial⟩
   |false =>
    repeat refine stq rfl ?_
    exact ⟨k + 1,hlt,by omega,rfl,rfl,rfl,rfl,by rw [hsk];rfl,rfl,i64_next (by omega) (by omega),rfl,by rw [hsk];rfl,trivial⟩
  |l lo hi =>
   generalize nmR x = v at *
   obtain ⟨vn,vb⟩ := v
   cases ok with
   |true =>
    repeat refine stq rfl ?_
    exact ⟨k + 1,hlt,by omega,rfl,rfl,rfl,rfl,by rw [hsk];rfl,rfl,i64_next (by omega) (by omega),rfl,by rw [hsk];rfl,trivial⟩
   |false =>
    repeat refine stq rfl ?_
    exact ⟨k + 1,hlt,by omega,rfl,rfl,rfl,rfl,by rw [hsk];rfl,rfl,i64_next (by omega) (by omega),rfl,by rw [hsk];rfl,trivial⟩
 ·have hz : k = fs.length := by have := of_decide_eq_false h;omega
  subst hz
  clear h
  generalize setK fs l ⟨op,v0n,[],[],[],[],0,0,0⟩ fs.length = cb at *
  obtain ⟨c,ok⟩ := cb
  dsimp only at hend0
  dsimp only
  by_cases hc : checkE c = 0
  ·have hf := format_ref c hc
   repeat refine stq rfl ?_
   refine qst rfl rfl (q_cs rfl hf rfl rfl) ?_
   cases ok with
   |false =>
    have hend : refC s = none := by rw [hend0,if_neg (by simp)]
    repeat refine stq rfl ?_
    exact endc2f rfl rfl rfl rfl rfl (by repeat' constructor) (by rw [hend];rfl)
   |true =>
    repeat refine stq rfl ?_
    refine pw_cond rfl (fun h => ?_) (fun h => ?_)
    ·have hne : ¬ textP c = s := by simpa using h
     have hend : refC s = none := by rw [hend0,if_neg (fun e => hne e.2.2)]
     clear h
     repeat refine stq rfl ?_
     exact endc2f rfl rfl rfl rfl rfl (by repeat' constructor) (by rw [hend];rfl)
    ·have he : textP c = s := by simpa using h
     have hend : refC s = some c := by rw [hend0,if_pos ⟨rfl,hc,he⟩]
     clear h
     repeat refine stq rfl ?_
     exact endc2f rfl rfl rfl rfl rfl (by repeat' constructor) (by rw [hend];rfl)
  ·have hf := format_refF c hc
   have hend : refC s = none := by rw [hend0,if_neg (fun e => hc e.2.1)]
   generalize checkE c = e at *
   repeat refine stq rfl ?_
   refine qst rfl rfl (q_cs rfl hf rfl rfl) ?_
   cases ok with
   |false =>
    repeat refine stq rfl ?_
    exact endc2f rfl rfl rfl rfl rfl (by repeat' constructor) (by rw [hend];rfl)
   |true =>
    repeat refine stq rfl ?_
    (first|refine ps_split rfl rfl ?_ ?_|refine pq_split rfl rfl ?_ ?_|refine p3_split rfl rfl ?_ ?_)<;>intro h
    ·repeat refine stq rfl ?_
     exact endc2f rfl rfl rfl rfl rfl (by repeat' constructor) (by rw [hend];rfl)
    ·exact absurd (by simpa using h) hc
end Go.Pv


set_option maxHeartbeats 2000000
namespace Go.Pv
attribute [local irreducible] PWP POps PQuiet PSem XThen XBlock RetPost InlPost
open Go.Proofs
def cutL (a : UInt8) : List UInt8 → List Str
 |[] => [[]]
 |c :: r => if c.toNat = a.toNat then [] :: cutL a r else ((c :: (cutL a r).headD []) :: (cutL a r).tail)
theorem cutL_ne (a : UInt8) (s : List UInt8) : cutL a s ≠ [] := by
 cases s with
 |nil => simp [cutL]
 |cons c r => rw [cutL];split <;> simp
def glue (out L : List Str) : List Str := out.set (out.length - 1) (out.getD (out.length - 1) [] ++ L.headD []) ++ L.tail
theorem cons_of {L : List Str} (h : L ≠ []) : ∃ x t,L = x :: t := by
 cases L with
 |nil => exact absurd rfl h
 |cons x t => exact ⟨x,t,rfl⟩
theorem snoc_of {out : List Str} (h : 0 < out.length) : ∃ p q,out = p ++ [q] := ⟨out.dropLast,out.getLast (by intro e;subst e;simp at h),(List.dropLast_concat_getLast _).symm⟩
theorem glue_snoc (p : List Str) (q x : Str) (t : List Str) : glue (p ++ [q]) (x :: t) = p ++ (q ++ x) :: t := by
 simp [glue]
theorem cutS_snoc (a : UInt8) (p : List Str) (q : Str) (c : UInt8) : cutS a (p ++ [q]) c = if c.toNat = a.toNat then p ++ [q] ++ [[]] else p ++ [q ++ [c]] := by
 rw [cutS]
 split
 ·rfl
 ·simp
theorem cut_glue (s : Str) (a : UInt8) : ∀ k,k ≤ s.length → cutL a s = glue (cutK s a k) (cutL a (s.drop k))
 |0,_ => by
  obtain ⟨x,t,hx⟩ := cons_of (cutL_ne a s)
  rw [cutK,List.drop_zero,hx,show ([[]] : List Str) = [] ++ [[]] from rfl,glue_snoc];rfl
 |k + 1,hk => by
  rw [cut_glue s a k (by omega)]
  obtain ⟨p,q,hp⟩ := snoc_of (cutK_len s a k).1
  have hd : s.drop k = s[k] :: s.drop (k + 1) := List.drop_eq_getElem_cons (by omega)
  have hg : s.getD k 0 = s[k] := by rw [List.getD_eq_getElem?_getD,List.getElem?_eq_getElem (by omega)];rfl
  obtain ⟨x,t,hx⟩ := cons_of (cutL_ne a (s.drop (k + 1)))
  rw [cutK,hp,cutS_snoc,hg,hd,cutL,hx]
  split
  ·rw [show ([] : Str) :: x :: t = ([] : Str) :: (x :: t) from rfl,glue_snoc,show p ++ [q] ++ [[]] = (p ++ [q]) ++ [([] : Str)] from rfl,glue_snoc]
   simp
  ·rw [List.headD_cons,List.tail_cons,glue_snoc,glue_snoc]
   simp
theorem cut_all (s : Str) (a : UInt8) : cutK s a s.length = cutL a s := by
 rw [cut_glue s a s.length (Nat.le_refl _),List.drop_length,cutL]
 obtain ⟨p,q,hp⟩ := snoc_of (cutK_len s a s.length).1
 rw [hp,glue_snoc];simp
theorem index_ne (b c : UInt8) (l : List UInt8) (h : b ≠ c) : Lib.index (b :: l) [c] = if Lib.index l [c] == -1 then -1 else Lib.index l [c] + 1 := by
 have hp : ([c] : List UInt8).isPrefixOf (b :: l) = false := by simp [List.isPrefixOf,Ne.symm h]
 rw [Lib.index,hp];simp
theorem index_eq (c : UInt8) (l : List UInt8) : Lib.index (c :: l) [c] = 0 := by
 rw [Lib.index];simp [List.isPrefixOf]
theorem split_all (c : UInt8) : ∀ s : List UInt8,Lib.splitK [c] 0 (Lib.count s [c]) s = cutL c s
 |[] => by rw [Lib.count_miss (by simp [Lib.index])];rfl
 |b :: l => by
  have ih := split_all c l
  by_cases h : b = c
  ·subst h
   rw [Lib.count_cons_eq,Nat.add_comm,Lib.splitK,index_eq,if_neg (by decide),cutL,if_pos rfl,← ih]
   rfl
  ·have hn : ¬ b.toNat = c.toNat := fun e => h (UInt8.toNat_inj.1 e)
   rw [Lib.count_cons_ne b c l h,cutL,if_neg hn,← ih]
   by_cases hm : Lib.index l [c] = -1
   ·rw [Lib.count_miss hm];rfl
   ·have hge := Lib.index_ge l [c]
    obtain ⟨j,hj⟩ : ∃ j : Nat,Lib.index l [c] = j := ⟨(Lib.index l [c]).toNat,by omega⟩
    have hc := Lib.count_hit (s := l) (sub := [c]) (by simp) hj
    rw [hc,Nat.add_comm,Lib.splitK,Lib.splitK,index_ne b c l h,hj,if_neg (by simp <;> omega),if_neg (by simp <;> omega),if_neg (by simp <;> omega)]
    simp only [Nat.add_zero,List.length_cons,List.length_nil,List.headD_cons,List.tail_cons]
    rw [show ((j : Int) + 1).toNat = j + 1 by omega,Int.toNat_natCast]
    rfl
def noB (a : UInt8) (s : Str) : Prop := ∀ c,c ∈ s → c.toNat ≠ a.toNat
theorem cut_noB {a : UInt8} : ∀ {s : Str},noB a s → cutL a s = [s]
 |[],_ => rfl
 |c :: r,h => by
  rw [cutL,if_neg (h c (by simp)),cut_noB (s := r) fun d hd => h d (by simp [hd])];rfl
theorem cut_sep {a : UInt8} : ∀ {s t : Str},noB a s → cutL a (s ++ a :: t) = s :: cutL a t
 |[],t,_ => by rw [List.nil_append,cutL,if_pos rfl]
 |c :: r,t,h => by
  rw [List.cons_append,cutL,if_neg (h c (by simp)),cut_sep (s := r) fun d hd => h d (by simp [hd])];rfl
theorem cut_join {a : UInt8} : ∀ (xs : List Str) (x : Str),noB a x → (∀ y,y ∈ xs → noB a y) → cutL a (x ++ Lib.joinTail [a] xs) = x :: xs
 |[],x,hx,_ => by simp [Lib.joinTail];exact cut_noB hx
 |y :: ys,x,hx,h => by
  have e : Lib.joinTail [a] (y :: ys) = a :: (y ++ Lib.joinTail [a] ys) := by simp [Lib.joinTail]
  rw [e,cut_sep hx,cut_join ys y (h y (by simp)) fun z hz => h z (by simp [hz])]
end Go.Pv


set_option maxHeartbeats 2000000
namespace Go.Pv
attribute [local irreducible] PWP POps PQuiet PSem XThen XBlock RetPost InlPost
open Go.Proofs Go.RowKit
theorem fixV_rep {E : Env} {c : PV} {u v : Value} (h : Rep E c v) (hf : fixV c = some u) : v = u := by
 cases c with
 |bool b => cases hf;exact h.bool_inv
 |int k n => cases hf;exact h.int_inv
 |str l => cases hf;exact h.str_inv
 |raw v => cases hf;exact h.raw_inv
 |_ => cases hf
section
variable {P : Program} {L : Lay} {s : St}
theorem sm_calls [Globs] {d : Nat} {ty : TypeId} {pos : String} {af : Array Edge} {fop : Operand} {args : Array Operand} {tys : Array TypeId} {f : FuncId} {vals : List Value} {Φ : PV → Prop} {K : St → Prop}
  (hf : s.ev fop = .clo f []) (hcall : callable P f) (hargs : args.toList.map (fun x => fixV (s.ev x)) = vals.map some)
  (hc : ∀ w : World,Globs.glob w → Calls P f vals.toArray w fun e w' => ∃ v pv,e = .returned v ∧ Below w.heap.size w w' ∧ Φ pv ∧ ∀ (w2 : World) (ok : Nat → Prop),DRep w2 ok pv v)
  (hK : ∀ pv,Φ pv → K (s.put (some d) pv)) : Sm P L s ⟨some d,.call ⟨.value fop,args,tys⟩,ty,pos,af,none⟩ K := by
 intro C a w Q hG hs hN
 obtain ⟨γ,hs⟩ := hs
 have hfv := hs.ev fop
 rw [hf] at hfv
 obtain ⟨vs,hv,hl,_⟩ := hfv.clo_inv
 have hvs : vs = [] := List.eq_nil_of_length_eq_zero (by simpa using hl.symm)
 subst hvs
 have hvals : args.toList.map a.eval ++ [] = vals := by
  rw [List.append_nil]
  apply List.ext_getElem?
  intro i
  have h1 := congrArg (fun l => l[i]?) hargs
  simp only [List.getElem?_map] at h1 ⊢
  cases hx : args.toList[i]? with
  |none =>
   rw [hx] at h1
   simp only [Option.map_none] at h1 ⊢
   cases hy : vals[i]? with
   |none => rfl
   |some y => rw [hy] at h1;cases h1
  |some x =>
   rw [hx] at h1
   simp only [Option.map_some] at h1 ⊢
   cases hy : vals[i]? with
   |none => rw [hy] at h1;cases h1
   |some y =>
    rw [hy] at h1
    have h1 : fixV (s.ev x) = some y := by simpa using h1
    rw [fixV_rep (hs.ev x) h1]
 unfold Oper.wp
 rw [run_call (f := f) rfl hv hcall,Oper.upon_enter,hvals]
 refine (hc w (hG.glob _ hs.below)).mono ?_
 rintro e w' ⟨v,pv,rfl,hb,hφ,hr⟩
 exact ⟨_,⟨γ,(hs.ext hb).put hN (.d (hr _ _))⟩,hK pv hφ⟩
end
theorem tup2 {w : World} {ok : Nat → Prop} {c1 c2 : PV} {v1 v2 : Value} (h1 : DRep w ok c1 v1) (h2 : DRep w ok c2 v2) : DRep w ok (.tup [c1,c2]) (.tuple #[v1,v2]) := by
 refine .tup [c1,c2] [v1,v2] rfl fun i c v e1 e2 => ?_
 match i,e1,e2 with
 |0,e1,e2 => simp at e1 e2;subst e1;subst e2;exact h1
 |1,e1,e2 => simp at e1 e2;subst e1;subst e2;exact h2
def AtoiP (l : Str) (pv : PV) : Prop := (∃ n,Lib.atoiAll l = .ok n ∧ pv = .tup [I n,.raw .nilIface]) ∨ ((∀ m,Lib.atoiAll l ≠ .ok m) ∧ ∃ n t u,pv = .tup [I n,.raw (.iface t u)])
theorem glob_err {w : World} {nm : String} {g : Nat} (h : HoldsErr w nm) (hg : Tryz.prog.globalNamed nm = some g) : ∃ ev,w.cell? ⟨g,0,none⟩ = some ev ∧ (ev = .nilIface ∨ ∃ te pe,ev = .iface te pe) := by
 obtain ⟨g',te,pe,h1,h2⟩ := h
 rw [hg] at h1
 cases h1
 exact ⟨_,h2,.inr ⟨te,pe,rfl⟩⟩
theorem errS_g : Tryz.prog.globalNamed "strconv.ErrSyntax" = some 0 := by kernel_rfl
theorem errR_g : Tryz.prog.globalNamed "strconv.ErrRange" = some 1 := by kernel_rfl
theorem numEnd3 (x : Lib.NumEnd Int) : (∃ n,x = .ok n) ∨ x = Lib.atoiAll [] ∨ x = .range := by
 cases x
 ·exact .inl ⟨_,rfl⟩
 ·exact .inr (.inl rfl)
 ·exact .inr (.inr rfl)
theorem synt_ne (m : Int) : Lib.atoiAll [] ≠ .ok m := fun h => by cases h
theorem atoi_calls (l : Str) (hl : l.length ≤ 1000000) (w : World) (hw : Globs.glob w) : Calls Tryz.prog 62 #[.string ⟨l.toArray⟩] w fun e w' => ∃ v pv,e = .returned v ∧ Below w.heap.size w w' ∧ AtoiP l pv ∧ ∀ (w2 : World) (ok : Nat → Prop),DRep w2 ok pv v := by
 have hsz : (⟨l.toArray⟩ : ByteArray).size = l.length := by simp [ByteArray.size]
 have hd : (⟨l.toArray⟩ : ByteArray).data.toList = l := by simp
 have hw' : Lib.TabIs Tryz.prog w "internal/strconv.uint64pow10" .u64 Lib.pow10Tab ∧ HoldsErr w "strconv.ErrSyntax" ∧ HoldsErr w "strconv.ErrRange" := ⟨pow_of hw, errs_of hw⟩
 rcases numEnd3 (Lib.atoiAll l) with ⟨n,ha⟩ | ha | ha
 ·refine (Tryz.strconv_Atoi_ok ⟨l.toArray⟩ (by omega) n (by rw [hd];exact ha) w).mono ?_
  rintro e w' ⟨rfl,hw2⟩
  refine ⟨_,.tup [I n,.raw .nilIface],rfl,?_,.inl ⟨n,ha,rfl⟩,fun w2 ok => tup2 (.int _ _) (.raw _)⟩
  rcases hw2 with rfl | ⟨t,rfl⟩
  ·exact Below.refl _ _
  ·exact Lib.bytesWorld_below _ _ _
 ·obtain ⟨ev,h1,h2⟩ := glob_err hw'.2.1 errS_g
  refine (Tryz.strconv_Atoi_syntax ⟨l.toArray⟩ (by omega) (by rw [hd];exact ha) ev w h1 h2).mono ?_
  rintro e w' ⟨N,rfl,_,_,hb⟩
  exact ⟨_,.tup [I 0,.raw (.iface _ _)],rfl,hb,.inr ⟨(fun m hm => synt_ne m (ha.symm.trans hm)),0,_,_,rfl⟩,fun w2 ok => tup2 (.int _ _) (.raw _)⟩
 ·obtain ⟨ev,h1,h2⟩ := glob_err hw'.2.2 errR_g
  refine (Tryz.strconv_Atoi_range ⟨l.toArray⟩ (by omega) (by rw [hd];exact ha) ev w h1 h2).mono ?_
  rintro e w' ⟨N,rfl,_,_,hb⟩
  exact ⟨_,.tup [I _,.raw (.iface _ _)],rfl,hb,.inr ⟨(fun m hm => by rw [ha] at hm;cases hm),_,_,_,rfl⟩,fun w2 ok => tup2 (.int _ _) (.raw _)⟩
theorem alloc_lt (w : World) (o : Obj) : w.heap.size < (w.alloc o).heap.size := by
 show w.heap.size < (w.heap.push o).size
 rw [Array.size_push];omega
theorem alloc_cell (w : World) (cs : Array Value) (T : TypeId) (f : Nat × Nat) (i : Nat) : (w.alloc (.cells cs T f)).cell? ⟨w.heap.size,i,none⟩ = cs[i]? := by
 have : (w.alloc (.cells cs T f)).heap[w.heap.size]? = some (.cells cs T f) := by
  show (w.heap.push _)[w.heap.size]? = _
  rw [Array.getElem?_push_size]
 unfold World.cell?
 simp only [this]
 rfl
theorem genSplit_ret (s : Str) (hs : s.length ≤ 1000000) : Ret Tryz.prog .fresh 116 [.str s,.str [32],I 0,I (-1)] (.sl ((cutL 32 s).map eS)) := by
 refine ⟨⟨_,Go.Proofs.Tryz.func116,by decide,rfl⟩,fun w X args hg hX hl hargs => ?_⟩
 match args,hl with
 |[v0,v1,v2,v3],_ =>
  have h0 := hargs 0 _ v0 rfl rfl
  have h1 := hargs 1 _ v1 rfl rfl
  have h2 := hargs 2 _ v2 rfl rfl
  have h3 := hargs 3 _ v3 rfl rfl
  cases h0
  cases h1
  cases h2
  cases h3
  have hsz : (⟨s.toArray⟩ : ByteArray).size = s.length := by simp [ByteArray.size]
  have hd : (⟨s.toArray⟩ : ByteArray).data.toList = s := by simp
  have hsep : (⟨[32].toArray⟩ : ByteArray) = ⟨#[32]⟩ := rfl
  have hcnt : Lib.countB ⟨s.toArray⟩ ⟨#[32]⟩ = Lib.count s [32] := by show Lib.count _ _ = _;rw [hd]
  have hle := Lib.countB_le ⟨#[32]⟩ (by decide) _ ⟨s.toArray⟩ (Nat.le_refl _)
  have hall := Lib.splitB_all ⟨#[32]⟩ (by decide) 0 _ ⟨s.toArray⟩ rfl
  have hdat := Lib.splitB_data ⟨#[32]⟩ 0 (Lib.countB ⟨s.toArray⟩ ⟨#[32]⟩) ⟨s.toArray⟩
  rw [hd,hcnt] at hdat
  have hdat : (Lib.splitB ⟨#[32]⟩ 0 (Lib.count s [32]) ⟨s.toArray⟩).map (·.data.toList) = cutL 32 s := by rw [hdat];exact split_all 32 s
  have c := Any.strings_genSplit_core Tryz.lays221 (by kernel_rfl) ⟨s.toArray⟩ ⟨#[32]⟩ 0 (-1) (Lib.countB ⟨s.toArray⟩ ⟨#[32]⟩ + 1) w (by omega) (by decide) (Nat.zero_le _)
   (fun x cs hx => (Tryz.strings_Index_one x 32 _).mono fun e w' ⟨he,hw⟩ => ⟨by rw [he];show _ = Ending.returned (Value.int .i64 (Lib.index x.data.toList [32]));rw [Lib.index_one],hw⟩)
   ((Tryz.strings_Count_one ⟨s.toArray⟩ 32 w).mono fun e w' ⟨he,hw⟩ => ⟨by rw [he,hcnt,Lib.count_one];show Ending.returned (Value.int .i64 ((List.count 32 _ : Nat) : Int)) = _;rw [hd],hw⟩)
   (by decide) (by decide) (by rw [if_pos (by decide)];omega)
  rw [Nat.add_sub_cancel,hall] at c
  refine Calls.mono (show Calls Tryz.prog 116 _ w _ from c) ?_
  rintro e w' ⟨rfl,rfl⟩
  rw [hcnt]
  rw [hcnt] at hall
  generalize hxs : Lib.splitB ⟨#[32]⟩ 0 (Lib.count s [32]) ⟨s.toArray⟩ = xs at *
  have hcl : (cutL 32 s).length = xs.length := by rw [← hdat,List.length_map]
  have hbel : Below w.heap.size w (w.alloc (.cells (Lib.cellsOf xs (Lib.count s [32] + 1)) 9)) := (Below.refl _ w).alloc (Nat.le_refl _) _
  refine ⟨_,rfl,hbel,?_⟩
  have key := DRep.sl (w := w.alloc (.cells (Lib.cellsOf xs (Lib.count s [32] + 1)) 9)) (ok := Mode.fresh.ok X w (w.alloc (.cells (Lib.cellsOf xs (Lib.count s [32] + 1)) 9))) ((cutL 32 s).map eS) w.heap.size 0 (Lib.count s [32] + 1) 1 (fun i _ => .string (xs.getD i ⟨#[]⟩)) ⟨Nat.le_refl _,alloc_lt w _⟩ (by decide) (by rw [List.length_map,hcl];omega)
   (fun row hr => by obtain ⟨y,_,rfl⟩ := List.mem_map.1 hr;rfl)
   (fun i j row c e1 e2 => ?_) (fun i j row c e1 e2 => ?_)
  ·rw [List.length_map,hcl,hall] at key
   exact key
  ·rw [List.getElem?_map] at e1
   cases hy : (cutL 32 s)[i]? with
   |none => rw [hy] at e1;cases e1
   |some y =>
    rw [hy] at e1
    cases e1
    match j,e2 with
    |0,e2 =>
     have hi : i < xs.length := by rw [← hcl];exact (List.getElem?_eq_some_iff.1 hy).1
     refine ⟨?_,rfl⟩
     rw [show (0 + i * 1 + 0) = i by omega,alloc_cell,show Lib.count s [32] + 1 = xs.length from hall.symm,Lib.cellsOf_full]
     simp [List.getD,List.getElem?_eq_getElem hi,hi]
  ·rw [List.getElem?_map] at e1
   cases hy : (cutL 32 s)[i]? with
   |none => rw [hy] at e1;cases e1
   |some y =>
    rw [hy] at e1
    cases e1
    match j,e2 with
    |0,e2 =>
     have hi : i < xs.length := by rw [← hcl];exact (List.getElem?_eq_some_iff.1 hy).1
     rw [← hdat,List.getElem?_map,List.getElem?_eq_getElem hi] at hy
     have e2 : PV.str y = c := by simpa [eS] using e2
     subst e2
     have hy : xs[i].data.toList = y := by simpa using hy
     subst hy
     have := DRep.str (w := w.alloc (.cells (Lib.cellsOf xs (Lib.count s [32] + 1)) 9)) (ok := Mode.fresh.ok X w (w.alloc (.cells (Lib.cellsOf xs (Lib.count s [32] + 1)) 9))) xs[i].data.toList
     rw [show (⟨xs[i].data.toList.toArray⟩ : ByteArray) = xs.getD i ⟨#[]⟩ by rw [List.getD_eq_getElem?_getD,List.getElem?_eq_getElem hi];simp] at this
     exact this
theorem split_ret (s : Str) (hs : s.length ≤ 1000000) : Ret Tryz.prog .shared 61 [.str s,.str [32]] (.sl ((cutL 32 s).map eS)) := by
 have h := genSplit_ret s hs
 refine Ret.of_pwp layOk mixed Go.Proofs.Tryz.func61 rfl (by decide) rfl rfl ?_
 repeat refine stq rfl ?_
 refine qst rfl rfl (q_cf rfl h rfl rfl) ?_
 repeat refine stq rfl ?_
 exact end1 rfl rfl rfl trivial rfl
end Go.Pv


set_option maxHeartbeats 2000000
namespace Go.Pv
attribute [local irreducible] PWP POps PQuiet PSem XThen XBlock RetPost InlPost
open Go.Proofs
theorem index_str (l : List Str) (v : Str) (hl : l.length ≤ 1000000) : Ret Tryz.prog .shared 63 [.sl (l.map eS),.str v] (I (idx l fun x => decide (v = x))) := by
 refine Ret.of_pwp layOk mixed Go.Proofs.Tryz.func63 rfl (by decide) rfl rfl ?_
 repeat refine stq rfl ?_
 refine pw_loop (Clear l fun x => decide (v = x)) (fun k => [(0,.sl (l.map eS)),(1,.str v),(7,I (l.map eS).length),(8,I k)]) (fun _ => []) (fun k => l.length - k) 0 .zero ⟨rfl,rfl,rfl,rfl,trivial⟩ ?_
 intro k s hk
 repeat refine stq rfl ?_
 refine pw_cond rfl (fun h => ?_) (fun h => ?_)
 ·have hlt : k < l.length := by simpa using h
  obtain ⟨x,hx⟩ := get_lt hlt
  clear h
  repeat refine stq rfl ?_
  refine qst rfl rfl (q_idxm rfl rfl rfl rfl rfl (by omega) hx rfl) ?_
  repeat refine stq rfl ?_
  refine pw_cond rfl (fun h => ?_) (fun h => ?_)
  ·repeat refine stq rfl ?_
   exact end1i rfl rfl (by rw [hk.found hx h])
  ·repeat refine stq rfl ?_
   exact ⟨k + 1,hk.succ hx h,by omega,rfl,rfl,rfl,i64_next (by omega) (by omega),trivial⟩
 ·repeat refine stq rfl ?_
  exact end1i rfl rfl (by rw [hk.none (by simpa using h)])
def setP1 (f : Fd) (x : Str) (q : SPost) : Option SPost := if f.isN = true then (match Lib.atoiAll x with | .ok n => some (f.put q x n) | _ => none) else some (f.put q x 0)
def setP (fs : List Fd) (l : List Str) (c : SPost) : Nat → Option SPost
 |0 => some c
 |k + 1 => match setP fs l c k with
  |none => none
  |some q => setP1 (fs.getD k .o) (l.getD (2 + k) []) q
theorem setP_none {fs : List Fd} {l : List Str} {c : SPost} {k n : Nat} (hk : k < n) (h : setP fs l c (k + 1) = none) : setP fs l c n = none := by
 obtain ⟨d,rfl⟩ : ∃ d,n = k + 1 + d := ⟨n - (k + 1),by omega⟩
 clear hk
 induction d with
 |zero => exact h
 |succ d ih => rw [← Nat.add_assoc,setP,ih]
def okN : Lib.NumEnd Int → Option Int
 |.ok n => some n
 |_ => none
def progF (s : Str) : Option SPost → Option SPost
 |none => none
 |some c => if checkE c = 0 ∧ textP c = s then some c else none
def progC2 (s : Str) (l : List Str) (d op : Int) : Option SPost :=
 if op < 0 then none else if ¬ (fdsOf op).length + 2 = l.length then none else progF s (setP (fdsOf op) l ⟨op,d,[],[],[],[],0,0,0⟩ (fdsOf op).length)
def progC1 (s : Str) (l : List Str) : Option SPost :=
 if l.length < 2 then none else match okN (Lib.atoiAll (l.getD 0 [])) with
  |none => none
  |some d => progC2 s l d (idx wordL fun x => decide (l.getD 1 [] = x))
def progC (s : Str) : Option SPost := progC1 s (cutL 32 s)
set_option maxRecDepth 20000 in
theorem parse_ret (s : Str) (hs : s.length ≤ 1000000) : Ret Tryz.prog .fresh 14 [.str s] (parV (progC s)) := by
 have hsp := split_ret s hs
 have hcp := cutK_piece s 32 s.length
 have hcl := (cutK_len s 32 s.length).2
 rw [cut_all] at hcp hcl
 have hend1 : progC s = progC1 s (cutL 32 s) := rfl
 generalize cutL 32 s = l at *
 have hll : ((l.map eS).length : Int) = l.length := by simp
 have hget : ∀ j,j < l.length → l[j]? = some (l.getD j []) ∧ (l.getD j []).length ≤ 1000000 := fun j hj => by
  have e : l[j]? = some (l.getD j []) := by rw [List.getD_eq_getElem?_getD,List.getElem?_eq_getElem hj];rfl
  exact ⟨e,by have := hcp _ (List.mem_of_getElem? e);omega⟩
 have hcal : callable Tryz.prog 62 := ⟨_,Go.Proofs.Tryz.func62,by decide,rfl⟩
 rw [progC1] at hend1
 refine Ret.of_pwp layOk mixed Go.Proofs.Tryz.func14 rfl (by decide) rfl rfl ?_
 repeat refine stq rfl ?_
 refine qst rfl rfl (q_cs rfl hsp rfl rfl) ?_
 repeat refine stq rfl ?_
 rw [hll]
 refine pw_cond rfl (fun h => ?_) (fun h => ?_)
 ·have hlt := of_decide_eq_true h
  have hend : progC s = none := by rw [hend1,if_pos (by omega)]
  clear h
  repeat refine stq rfl ?_
  exact endc2f rfl rfl rfl rfl rfl (by repeat' constructor) (by rw [hend];rfl)
 have h2 : 2 ≤ l.length := by have := of_decide_eq_false h;omega
 clear h
 rw [if_neg (by omega)] at hend1
 obtain ⟨hx0,hl0⟩ := hget 0 (by omega)
 obtain ⟨hx1,hl1⟩ := hget 1 (by omega)
 generalize l.getD 0 [] = x0 at *
 generalize l.getD 1 [] = x1 at *
 have hwd := words_ret
 have hix := index_str wordL x1 (by decide)
 have hib := idx_bounds wordL fun x => decide (x1 = x)
 refine pw_skip ?_
 ((repeat (first | refine x_norm ?_ | refine pw_seq ?_));refine pw_regionS 3 ?_)
 refine ps_v rfl trivial ?_
 refine qst rfl rfl (q_idxm (n := ((0 : Int) : Int)) rfl rfl rfl rfl rfl (by omega) hx0 rfl) ?_
 refine stq rfl ?_
 refine ps_nil ?_
 refine psem_sm rfl (sm_calls (vals := [.string ⟨x0.toArray⟩]) (Φ := AtoiP x0) rfl hcal rfl (atoi_calls x0 hl0) (fun pv hφ => ?_))
 refine psem_ops ?_
 rcases hφ with ⟨d,hd,rfl⟩ | ⟨hn,d,t,u,rfl⟩
 rotate_left
 ·have hend : progC s = none := by
   rw [hend1]
   rcases numEnd3 (Lib.atoiAll x0) with ⟨m,ha⟩ | ha | ha
   ·exact absurd ha (hn m)
   ·rw [ha] <;> rfl
   ·rw [ha] <;> rfl
  generalize (idx wordL fun x => decide (x1 = x)) = op at *
  repeat refine stq rfl ?_
  refine pw_draw2 7 1 [28,29,30,31,32,33,34,7] [] (by decide +kernel) rfl ?_
  repeat refine stq rfl ?_
  refine qst rfl rfl (q_cf rfl hwd rfl rfl) ?_
  repeat refine stq rfl ?_
  refine qst rfl rfl (q_idxm (n := ((1 : Int) : Int)) rfl rfl rfl rfl rfl (by omega) hx1 rfl) ?_
  repeat refine stq rfl ?_
  refine qst rfl rfl (q_cp rfl hix rfl rfl rfl) ?_
  repeat refine stq rfl ?_
  refine qst rfl rfl (q_ifN1 Tryz.underlying115 rfl) ?_
  repeat refine stq rfl ?_
  exact endc2f rfl rfl rfl rfl rfl (by repeat' constructor) (by rw [hend];rfl)
 have hend2 : progC s = progC2 s l d (idx wordL fun x => decide (x1 = x)) := by rw [hend1,hd];rfl
 clear hend1 hd
 generalize (idx wordL fun x => decide (x1 = x)) = op at *
 rw [progC2] at hend2
 repeat refine stq rfl ?_
 refine pw_draw2 7 1 [28,29,30,31,32,33,34,7] [] (by decide +kernel) rfl ?_
 repeat refine stq rfl ?_
 refine qst rfl rfl (q_cf rfl hwd rfl rfl) ?_
 repeat refine stq rfl ?_
 refine qst rfl rfl (q_idxm (n := ((1 : Int) : Int)) rfl rfl rfl rfl rfl (by omega) hx1 rfl) ?_
 repeat refine stq rfl ?_
 refine qst rfl rfl (q_cp rfl hix rfl rfl rfl) ?_
 repeat refine stq rfl ?_
 refine qst rfl rfl (q_ifN0 Tryz.underlying115 rfl) ?_
 repeat refine stq rfl ?_
 refine pw_cond rfl (fun h => ?_) (fun h => ?_)
 ·have hop := of_decide_eq_true h
  have hend : progC s = none := by rw [hend2,if_pos hop]
  clear h
  repeat refine stq rfl ?_
  exact endc2f rfl rfl rfl rfl rfl (by repeat' constructor) (by rw [hend];rfl)
 have hop := of_decide_eq_false h
 clear h
 rw [if_neg hop] at hend2
 have hfl := fdsOf_len op
 have htl : ((fdsOf op).map Fd.tm).length = (fdsOf op).length := List.length_map _
 refine pw_skip ?_
 ((repeat (first | refine x_norm ?_ | refine pw_seq ?_));refine pw_regionS 0 ?_)
 refine ps_nil ?_
 refine psem_sm rfl (sm_callP ((fdsOf op).map Fd.tm) (fun b off => fields_tm b off op) rfl rfl rfl rfl rfl rfl (fdsOf_tm_ok op) rfl ?_)
 refine psem_ops ?_
 rw [htl]
 have hrow : ∀ (k : Nat) (f : Fd),(fdsOf op)[k]? = some f → (((fdsOf op).map Fd.tm).map fun r => r.map (TC.inst fun o => PV.ptr 7 1 0 o))[0 + (k : Int).toNat]? = some (f.tm.map (TC.inst fun o => PV.ptr 7 1 0 o)) := fun k f h => by
  rw [List.getElem?_map,List.getElem?_map,Int.toNat_natCast,Nat.zero_add,h];rfl
 generalize fdsOf op = fs at *
 have hw : IntKind.wrap .i64 ((l.length : Int) - 2) = (l.length : Int) - 2 := wrap_i64 (by omega) (by omega)
 repeat refine stq rfl ?_
 rw [hll,hw]
 refine pw_cond rfl (fun h => ?_) (fun h => ?_)
 ·have hne : ¬ (fs.length : Int) = (l.length : Int) - 2 := by simpa using h
  have hend : progC s = none := by rw [hend2,if_pos (by omega)]
  clear h
  repeat refine stq rfl ?_
  exact endc2f rfl rfl rfl rfl rfl (by repeat' constructor) (by rw [hend];rfl)
 have hle : fs.length + 2 = l.length := by
  have : (fs.length : Int) = (l.length : Int) - 2 := by simpa using h
  omega
 clear h
 rw [if_neg (by omega)] at hend2
 have hend0 : progC s = progF s (setP fs l ⟨op,d,[],[],[],[],0,0,0⟩ fs.length) := hend2
 have hdrop : (l.map eS).drop ((2 : Int)).toNat = (l.drop 2).map eS := by rw [List.map_drop];rfl
 have hdl : (((l.drop 2).map eS).length : Int) = fs.length := by simp;omega
 repeat refine stq rfl ?_
 refine qst rfl rfl (QOp.slc rfl rfl rfl rfl rfl rfl (by decide) (by rw [hll];omega) (fun row hr => by obtain ⟨y,_,rfl⟩ := List.mem_map.1 hr;rfl)) ?_
 rw [hdrop]
 repeat refine stq rfl ?_
 rw [hdl]
 refine pw_loop (fun (k : Nat × SPost) => k.1 ≤ fs.length ∧ setP fs l ⟨op,d,[],[],[],[],0,0,0⟩ k.1 = some k.2) (fun k => [(0,.str s),(2,.ptr 2 1 0 0),(7,.ptr 7 1 0 0),(8,.als 43 1 0 fs.length),(52,.sl ((l.drop 2).map eS)),(53,I fs.length),(54,I k.1)])
  (fun k => [(2,1,⟨23,9,[ePost zP],2⟩),(7,1,⟨23,9,[ePost k.2],2⟩),(43,1,⟨125,4,(fs.map Fd.tm).map fun r => r.map (TC.inst fun o => PV.ptr 7 1 0 o),2⟩)]) (fun k => fs.length - k.1) (0,⟨op,d,[],[],[],[],0,0,0⟩) ⟨Nat.zero_le _,rfl⟩ ⟨rfl,rfl,rfl,rfl,rfl,rfl,rfl,rfl,rfl,rfl,trivial⟩ ?_
 generalize ((fs.map Fd.tm).map fun r => r.map (TC.inst fun o => PV.ptr 7 1 0 o)) = rows at *
 rintro ⟨k,q⟩ st ⟨hk,hinv⟩
 simp only at hk hinv
 dsimp only
 repeat refine stq rfl ?_
 refine pw_cond rfl (fun h => ?_) (fun h => ?_)
 ·have hlt : k < fs.length := by have := of_decide_eq_true h;omega
  clear h
  obtain ⟨hxk0,hxl⟩ := hget (2 + k) (by omega)
  have hxk : (l.drop 2)[k]? = some (l.getD (2 + k) []) := by rw [List.getElem?_drop];exact hxk0
  have hsk : setP fs l ⟨op,d,[],[],[],[],0,0,0⟩ (k + 1) = setP1 (fs.getD k .o) (l.getD (2 + k) []) q := by rw [setP,hinv]
  have hf : fs[k]? = some (fs.getD k .o) := by rw [List.getD_eq_getElem?_getD,List.getElem?_eq_getElem hlt];rfl
  have grow := hrow k _ hf
  clear hxk0 hf
  generalize l.getD (2 + k) [] = x at *
  generalize fs.getD k .o = f at *
  repeat refine stq rfl ?_
  refine qst rfl rfl (q_idxm rfl rfl rfl rfl rfl (by omega) hxk rfl) ?_
  cases f with
  |o =>
   have hsk : setP fs l ⟨op,d,[],[],[],[],0,0,0⟩ (k + 1) = some (Fd.o.put q x 0) := hsk
   repeat refine stq rfl ?_
   refine qst rfl rfl (q_idxA rfl rfl rfl rfl rfl rfl rfl (by omega) (by omega)) ?_
   repeat refine stq rfl ?_
   refine qst rfl rfl (q_ldp rfl rfl rfl grow rfl) ?_
   repeat refine stq rfl ?_
   refine qst rfl rfl (q_idxA rfl rfl rfl rfl rfl rfl rfl (by omega) (by omega)) ?_
   repeat refine stq rfl ?_
   refine qst rfl rfl (q_ldp rfl rfl rfl grow rfl) ?_
   repeat refine stq rfl ?_
   exact ⟨(k + 1,_),⟨hlt,hsk⟩,by show fs.length - (k + 1) < fs.length - k;omega,rfl,rfl,rfl,rfl,rfl,rfl,i64_next (by omega) (by omega),rfl,rfl,rfl,trivial⟩
  |i =>
   have hsk : setP fs l ⟨op,d,[],[],[],[],0,0,0⟩ (k + 1) = some (Fd.i.put q x 0) := hsk
   repeat refine stq rfl ?_
   refine qst rfl rfl (q_idxA rfl rfl rfl rfl rfl rfl rfl (by omega) (by omega)) ?_
   repeat refine stq rfl ?_
   refine qst rfl rfl (q_ldp rfl rfl rfl grow rfl) ?_
   repeat refine stq rfl ?_
   refine qst rfl rfl (q_idxA rfl rfl rfl rfl rfl rfl rfl (by omega) (by omega)) ?_
   repeat refine stq rfl ?_
   refine qst rfl rfl (q_ldp rfl rfl rfl grow rfl) ?_
   repeat refine stq rfl ?_
   exact ⟨(k + 1,_),⟨hlt,hsk⟩,by show fs.length - (k + 1) < fs.length - k;omega,rfl,rfl,rfl,rfl,rfl,rfl,i64_next (by omega) (by omega),rfl,rfl,rfl,trivial⟩
  |s =>
   have hsk : setP fs l ⟨op,d,[],[],[],[],0,0,0⟩ (k + 1) = some (Fd.s.put q x 0) := hsk
   repeat refine stq rfl ?_
   refine qst rfl rfl (q_idxA rfl rfl rfl rfl rfl rfl rfl (by omega) (by omega)) ?_
   repeat refine stq rfl ?_
   refine qst rfl rfl (q_ldp rfl rfl rfl grow rfl) ?_
   repeat refine stq rfl ?_
   refine qst rfl rfl (q_idxA rfl rfl rfl rfl rfl rfl rfl (by omega) (by omega)) ?_
   repeat refine stq rfl ?_
   refine qst rfl rfl (q_ldp rfl rfl rfl grow rfl) ?_
   repeat refine stq rfl ?_
   exact ⟨(k + 1,_),⟨hlt,hsk⟩,by show fs.length - (k + 1) < fs.length - k;omega,rfl,rfl,rfl,rfl,rfl,rfl,i64_next (by omega) (by omega),rfl,rfl,rfl,trivial⟩
  |w =>
   have hsk : setP fs l ⟨op,d,[],[],[],[],0,0,0⟩ (k + 1) = some (Fd.w.put q x 0) := hsk
   repeat refine stq rfl ?_
   refine qst rfl rfl (q_idxA rfl rfl rfl rfl rfl rfl rfl (by omega) (by omega)) ?_
   repeat refine stq rfl ?_
   refine qst rfl rfl (q_ldp rfl rfl rfl grow rfl) ?_
   repeat refine stq rfl ?_
   refine qst rfl rfl (q_idxA rfl rfl rfl rfl rfl rfl rfl (by omega) (by omega)) ?_
   repeat refine stq rfl ?_
   refine qst rfl rfl (q_ldp rfl rfl rfl grow rfl) ?_
   repeat refine stq rfl ?_
   exact ⟨(k + 1,_),⟨hlt,hsk⟩,by show fs.length - (k + 1) < fs.length - k;omega,rfl,rfl,rfl,rfl,rfl,rfl,i64_next (by omega) (by omega),rfl,rfl,rfl,trivial⟩
  |a lo hi =>
   have hsk : setP fs l ⟨op,d,[],[],[],[],0,0,0⟩ (k + 1) = (match Lib.atoiAll x with | .ok n => some ((Fd.a lo hi).put q x n) | _ => none) := hsk
   repeat refine stq rfl ?_
   refine qst rfl rfl (q_idxA rfl rfl rfl rfl rfl rfl rfl (by omega) (by omega)) ?_
   refine stq rfl ?_
   refine qst rfl rfl (q_ldp rfl rfl rfl grow rfl) ?_
   refine stq rfl ?_
   refine ps_nil ?_
   refine x_norm ?_
   refine pw_cond rfl (fun h => absurd h (by simp)) (fun _ => ?_)
   refine pw_skip ?_
   ((repeat (first | refine x_norm ?_ | refine pw_seq ?_));refine pw_regionS 1 ?_)
   refine ps_v rfl trivial ?_
   refine ps_nil ?_
   refine psem_sm rfl (sm_calls (vals := [.string ⟨x.toArray⟩]) (Φ := AtoiP x) rfl hcal rfl (atoi_calls x hxl) (fun pv hφ => ?_))
   refine psem_ops ?_
   rcases hφ with ⟨n,hn,rfl⟩ | ⟨hn,n,t,u,rfl⟩
   ·rw [hn] at hsk
    repeat refine stq rfl ?_
    refine qst rfl rfl (q_ifN0 Tryz.underlying115 rfl) ?_
    repeat refine stq rfl ?_
    refine qst rfl rfl (q_idxA rfl rfl rfl rfl rfl rfl rfl (by omega) (by omega)) ?_
    repeat refine stq rfl ?_
    refine qst rfl rfl (q_ldp rfl rfl rfl grow rfl) ?_
    repeat refine stq rfl ?_
    exact ⟨(k + 1,_),⟨hlt,hsk⟩,by show fs.length - (k + 1) < fs.length - k;omega,rfl,rfl,rfl,rfl,rfl,rfl,i64_next (by omega) (by omega),rfl,rfl,rfl,trivial⟩
   ·have hend : progC s = none := by
     rw [hend0]
     have hb : setP fs l ⟨op,d,[],[],[],[],0,0,0⟩ (k + 1) = none := by
      rw [hsk]
      rcases numEnd3 (Lib.atoiAll x) with ⟨m,ha⟩ | ha | ha
      ·exact absurd ha (hn m)
      ·rw [ha] <;> rfl
      ·rw [ha] <;> rfl
     rw [setP_none hlt hb];rfl
    repeat refine stq rfl ?_
    refine qst rfl rfl (q_ifN1 Tryz.underlying115 rfl) ?_
    repeat refine stq rfl ?_
    exact endc2f rfl rfl rfl rfl rfl (by repeat' constructor) (by rw [hend];rfl)
  |r lo hi =>
   have hsk : setP fs l ⟨op,d,[],[],[],[],0,0,0⟩ (k + 1) = (match Lib.atoiAll x with | .ok n => some ((Fd.r lo hi).put q x n) | _ => none) := hsk
   repeat refine stq rfl ?_
   refine qst rfl rfl (q_idxA rfl rfl rfl rfl rfl rfl rfl (by omega) (by omega)) ?_
   refine stq rfl ?_
   refine qst rfl rfl (q_ldp rfl rfl rfl grow rfl) ?_
   refine stq rfl ?_
   refine ps_nil ?_
   refine x_norm ?_
   refine pw_cond rfl (fun h => absurd h (by simp)) (fun _ => ?_)
   refine pw_skip ?_
   ((repeat (first | refine x_norm ?_ | refine pw_seq ?_));refine pw_regionS 1 ?_)
   refine ps_v rfl trivial ?_
   refine ps_nil ?_
   refine psem_sm rfl (sm_calls (vals := [.string ⟨x.toArray⟩]) (Φ := AtoiP x) rfl hcal rfl (atoi_calls x hxl) (fun pv hφ => ?_))
   refine psem_ops ?_
   rcases hφ with ⟨n,hn,rfl⟩ | ⟨hn,n,t,u,rfl⟩
   ·rw [hn] at hsk
    repeat refine stq rfl ?_
    refine qst rfl rfl (q_ifN0 Tryz.underlying115 rfl) ?_
    repeat refine stq rfl ?_
    refine qst rfl rfl (q_idxA rfl rfl rfl rfl rfl rfl rfl (by omega) (by omega)) ?_
    repeat refine stq rfl ?_
    refine qst rfl rfl (q_ldp rfl rfl rfl grow rfl) ?_
    repeat refine stq rfl ?_
    exact ⟨(k + 1,_),⟨hlt,hsk⟩,by show fs.length - (k + 1) < fs.length - k;omega,rfl,rfl,rfl,rfl,rfl,rfl,i64_next (by omega) (by omega),rfl,rfl,rfl,trivial⟩
   ·have hend : progC s = none := by
     rw [hend0]
     have hb : setP fs l ⟨op,d,[],[],[],[],0,0,0⟩ (k + 1) = none := by
      rw [hsk]
      rcases numEnd3 (Lib.atoiAll x) with ⟨m,ha⟩ | ha | ha
      ·exact absurd ha (hn m)
      ·rw [ha] <;> rfl
      ·rw [ha] <;> rfl
     rw [setP_none hlt hb];rfl
    repeat refine stq rfl ?_
    refine qst rfl rfl (q_ifN1 Tryz.underlying115 rfl) ?_
    repeat refine stq rfl ?_
    exact endc2f rfl rfl rfl rfl rfl (by repeat' constructor) (by rw [hend];rfl)
  |l lo hi =>
   have hsk : setP fs l ⟨op,d,[],[],[],[],0,0,0⟩ (k + 1) = (match Lib.atoiAll x with | .ok n => some ((Fd.l lo hi).put q x n) | _ => none) := hsk
   repeat refine stq rfl ?_
   refine qst rfl rfl (q_idxA rfl rfl rfl rfl rfl rfl rfl (by omega) (by omega)) ?_
   refine stq rfl ?_
   refine qst rfl rfl (q_ldp rfl rfl rfl grow rfl) ?_
   refine stq rfl ?_
   refine ps_nil ?_
   refine x_norm ?_
   refine pw_cond rfl (fun h => absurd h (by simp)) (fun _ => ?_)
   refine pw_skip ?_
   ((repeat (first | refine x_norm ?_ | refine pw_seq ?_));refine pw_regionS 1 ?_)
   refine ps_v rfl trivial ?_
   refine ps_nil ?_
   refine psem_sm rfl (sm_calls (vals := [.string ⟨x.toArray⟩]) (Φ := AtoiP x) rfl hcal rfl (atoi_calls x hxl) (fun pv hφ => ?_))
   refine psem_ops ?_
   rcases hφ with ⟨n,hn,rfl⟩ | ⟨hn,n,t,u,rfl⟩
   ·rw [hn] at hsk
    repeat refine stq rfl ?_
    refine qst rfl rfl (q_ifN0 Tryz.underlying115 rfl) ?_
    repeat refine stq rfl ?_
    refine qst rfl rfl (q_idxA rfl rfl rfl rfl rfl rfl rfl (by omega) (by omega)) ?_
    repeat refine stq rfl ?_
    refine qst rfl rfl (q_ldp rfl rfl rfl grow rfl) ?_
    repeat refine stq rfl ?_
    exact ⟨(k + 1,_),⟨hlt,hsk⟩,by show fs.length - (k + 1) < fs.length - k;omega,rfl,rfl,rfl,rfl,rfl,rfl,i64_next (by omega) (by omega),rfl,rfl,rfl,trivial⟩
   ·have hend : progC s = none := by
     rw [hend0]
     have hb : setP fs l ⟨op,d,[],[],[],[],0,0,0⟩ (k + 1) = none := by
      rw [hsk]
      rcases numEnd3 (Lib.atoiAll x) with ⟨m,ha⟩ | ha | ha
      ·exact absurd ha (hn m)
      ·rw [ha] <;> rfl
      ·rw [ha] <;> rfl
     rw [setP_none hlt hb];rfl
    repeat refine stq rfl ?_
    refine qst rfl rfl (q_ifN1 Tryz.underlying115 rfl) ?_
    repeat refine stq rfl ?_
    exact endc2f rfl rfl rfl rfl rfl (by repeat' constructor) (by rw [hend];rfl)
 ·have hz : k = fs.length := by have := of_decide_eq_false h;omega
  subst hz
  clear h
  rw [hinv] at hend0
  rw [progF] at hend0
  by_cases hc : checkE q = 0
  ·have hf := format_ret q hc
   repeat refine stq rfl ?_
   refine qst rfl rfl (q_cs rfl hf rfl rfl) ?_
   repeat refine stq rfl ?_
   refine pw_cond rfl (fun h => ?_) (fun h => ?_)
   ·have hne : ¬ textP q = s := by simpa using h
    have hend : progC s = none := by rw [hend0,if_neg (fun e => hne e.2)]
    clear h
    repeat refine stq rfl ?_
    exact endc2f rfl rfl rfl rfl rfl (by repeat' constructor) (by rw [hend];rfl)
   ·have he : textP q = s := by simpa using h
    have hend : progC s = some q := by rw [hend0,if_pos ⟨hc,he⟩]
    clear h
    repeat refine stq rfl ?_
    exact endc2f rfl rfl rfl rfl rfl (by repeat' constructor) (by rw [hend];rfl)
  ·have hf := format_fail q hc
   have hend : progC s = none := by rw [hend0,if_neg (fun e => hc e.1)]
   generalize checkE q = e at *
   repeat refine stq rfl ?_
   refine qst rfl rfl (q_cs rfl hf rfl rfl) ?_
   repeat refine stq rfl ?_
   (first|refine ps_split rfl rfl ?_ ?_|refine pq_split rfl rfl ?_ ?_|refine p3_split rfl rfl ?_ ?_)<;>intro h
   ·repeat refine stq rfl ?_
    exact endc2f rfl rfl rfl rfl rfl (by repeat' constructor) (by rw [hend];rfl)
   ·exact absurd (by simpa using h) hc
end Go.Pv


set_option maxHeartbeats 2000000
namespace Go.Pv
attribute [local irreducible] PWP POps PQuiet PSem XThen XBlock RetPost InlPost
open Go.Proofs
theorem dig_nat {d : Nat} (h : d < 10) : (UInt8.ofNat (48 + d)).toNat = 48 + d := by
 rw [UInt8.toNat_ofNat'];omega
theorem parse_app : ∀ (xs ys : List UInt8) (acc : Nat),Lib.parseUint10 acc (xs ++ ys) = match Lib.parseUint10 acc xs with | .ok a => Lib.parseUint10 a ys | e => e
 |[],ys,acc => by simp [Lib.parseUint10]
 |c :: xs,ys,acc => by
  rw [List.cons_append,Lib.parseUint10,Lib.parseUint10]
  split
  ·split
   ·rfl
   ·split
    ·rfl
    ·exact parse_app xs ys _
  ·rfl
theorem parse_dec : ∀ (n u : Nat),u ≤ n → u ≤ 100000000000 → Lib.parseUint10 0 (Lib.decDigits u) = .ok u
 |0,u,h,_ => by
  have : u = 0 := by omega
  subst this
  rw [decD_small (by omega),Lib.parseUint10,dig_nat (by omega)]
  simp [Lib.parseUint10]
 |n + 1,u,h,hu => by
  by_cases hs : u < 10
  ·rw [decD_small hs,Lib.parseUint10,dig_nat hs,if_pos (by omega),if_neg (by omega),if_neg (by omega),Lib.parseUint10]
   congr 1;omega
  ·rw [decD_big hs,parse_app,parse_dec n (u / 10) (by omega) (by omega)]
   show Lib.parseUint10 (u / 10) [UInt8.ofNat (48 + u % 10)] = _
   rw [Lib.parseUint10,dig_nat (by omega),if_pos (by omega),if_neg (by omega),if_neg (by omega),Lib.parseUint10]
   congr 1;omega
theorem dec_digits : ∀ (n u : Nat),u ≤ n → ∀ c,c ∈ Lib.decDigits u → 48 ≤ c.toNat ∧ c.toNat ≤ 57
 |0,u,h,c,hc => by
  rw [decD_small (by omega)] at hc
  simp only [List.mem_cons,List.not_mem_nil,or_false] at hc
  subst hc
  rw [dig_nat (by omega)];omega
 |n + 1,u,h,c,hc => by
  by_cases hs : u < 10
  ·rw [decD_small hs] at hc
   simp only [List.mem_cons,List.not_mem_nil,or_false] at hc
   subst hc
   rw [dig_nat hs];omega
  ·rw [decD_big hs] at hc
   rcases List.mem_append.1 hc with hc | hc
   ·exact dec_digits n (u / 10) (by omega) c hc
   ·simp only [List.mem_cons,List.not_mem_nil,or_false] at hc
    subst hc
    rw [dig_nat (by omega)];omega
theorem dec_ne (u : Nat) : Lib.decDigits u ≠ [] := by
 by_cases hs : u < 10
 ·rw [decD_small hs];simp
 ·rw [decD_big hs];simp
theorem atoi_itoa {v : Int} (h0 : -100000000000 ≤ v) (h1 : v ≤ 100000000000) : Lib.atoiAll (Lib.itoa v) = .ok v := by
 rw [Lib.itoa]
 split
 ·rename_i hn
  rw [Lib.atoiAll_minus,Lib.parseMag,if_neg (dec_ne _),parse_dec _ v.natAbs (Nat.le_refl _) (by omega)]
  show (if 9223372036854775808 < v.natAbs then _ else _) = _
  rw [if_neg (by omega)]
  congr 1;omega
 ·rename_i hn
  have hne := dec_ne v.toNat
  have hd := dec_digits _ v.toNat (Nat.le_refl _)
  have hp := parse_dec _ v.toNat (Nat.le_refl _) (by omega)
  generalize Lib.decDigits v.toNat = L at *
  cases L with
  |nil => exact absurd rfl hne
  |cons c r =>
   have := hd c (by simp)
   rw [Lib.atoiAll_plain c r (by omega) (by omega),Lib.parseMag,if_neg (by simp),hp]
   show (if 9223372036854775808 ≤ v.toNat then _ else _) = _
   rw [if_neg (by omega)]
   congr 1;omega
theorem nmS_app : ∀ (xs ys : List UInt8) (i : Nat) (n : Int) (neg : Bool),nmS (xs ++ ys) i n neg = match nmS xs i n neg with | some (n',neg') => nmS ys (i + xs.length) n' neg' | none => none
 |[],ys,i,n,neg => by simp [nmS]
 |c :: xs,ys,i,n,neg => by
  rw [List.cons_append,nmS,nmS]
  split
  ·rw [nmS_app xs ys];simp only [List.length_cons];rw [show i + 1 + xs.length = i + (xs.length + 1) by omega]
  ·split
   ·rfl
   ·rw [nmS_app xs ys];simp only [List.length_cons];rw [show i + 1 + xs.length = i + (xs.length + 1) by omega]
theorem nmS_one {c : UInt8} {i : Nat} {n : Int} {neg : Bool} (h1 : 48 ≤ c.toNat) (h2 : c.toNat ≤ 57) (h3 : n ≤ 1000000000) : nmS [c] i n neg = some (10 * n + ((c.toNat : Int) - 48),neg) := by
 rw [nmS,if_neg (by omega),if_neg (by omega),nmS]
theorem nmS_dec : ∀ (m u : Nat) (i : Nat) (neg : Bool),u ≤ m → u ≤ 1000000000 → nmS (Lib.decDigits u) i 0 neg = some ((u : Int),neg)
 |0,u,i,neg,h,_ => by
  have : u = 0 := by omega
  subst this
  rw [decD_small (by omega),nmS_one (by rw [dig_nat (by omega)];omega) (by rw [dig_nat (by omega)];omega) (by omega),dig_nat (by omega)]
  congr 1
 |m + 1,u,i,neg,h,hu => by
  by_cases hs : u < 10
  ·rw [decD_small hs,nmS_one (by rw [dig_nat hs];omega) (by rw [dig_nat hs];omega) (by omega),dig_nat hs]
   congr 2;omega
  ·rw [decD_big hs,nmS_app,nmS_dec m (u / 10) i neg (by omega) (by omega)]
   show nmS [UInt8.ofNat (48 + u % 10)] _ _ _ = _
   rw [nmS_one (by rw [dig_nat (by omega)];omega) (by rw [dig_nat (by omega)];omega) (by omega),dig_nat (by omega)]
   congr 2;omega
theorem nmR_itoa {v : Int} (h0 : -1000000000 ≤ v) (h1 : v ≤ 1000000000) : nmR (Lib.itoa v) = (v,true) := by
 have key : nmV (nmS (Lib.itoa v) 0 0 false) = some v := by
  rw [Lib.itoa]
  split
  ·rename_i hn
   rw [nmS,if_pos ⟨rfl,rfl⟩,nmS_dec _ v.natAbs _ _ (Nat.le_refl _) (by omega)]
   show some (-(v.natAbs : Int)) = _
   congr 1;omega
  ·rename_i hn
   rw [nmS_dec _ v.toNat _ _ (Nat.le_refl _) (by omega)]
   show some ((v.toNat : Int)) = _
   congr 1;omega
 rw [nmR,key]
 simp
theorem itoa_noB (v : Int) : noB 32 (Lib.itoa v) := by
 intro c hc
 rw [Lib.itoa] at hc
 have h32 : (32 : UInt8).toNat = 32 := rfl
 split at hc
 ·rcases List.mem_cons.1 hc with rfl | hc
  ·decide
  ·have := dec_digits _ _ (Nat.le_refl _) c hc;omega
 ·have := dec_digits _ _ (Nat.le_refl _) c hc;omega
theorem name_noB {s : Str} (h : isName s = true) : noB 32 s := by
 intro c hc
 simp only [isName,Bool.and_eq_true,decide_eq_true_eq] at h
 obtain ⟨j,hj,rfl⟩ := List.getElem_of_mem hc
 have := fstE_zero h.2 j s[j] (List.getElem?_eq_getElem hj)
 intro he
 have h32 : (32 : UInt8).toNat = 32 := rfl
 rw [h32] at he
 have hb : badc j s[j] = true := by
  simp only [badc,letter,he]
  simp
 rw [badE,if_pos hb] at this
 exact absurd this (by decide)
theorem dec_short : ∀ (k u : Nat),u < 10 ^ (k + 1) → (Lib.decDigits u).length ≤ k + 1
 |0,u,h => by rw [decD_small (by simpa using h)];simp
 |k + 1,u,h => by
  by_cases hs : u < 10
  ·rw [decD_small hs];simp
  ·rw [decD_big hs]
   have := dec_short k (u / 10) (by rw [Nat.pow_succ] at h;omega)
   simp;omega
theorem itoa_short {v : Int} (h0 : -1000000000 ≤ v) (h1 : v ≤ 1000000000) : (Lib.itoa v).length ≤ 11 := by
 rw [Lib.itoa]
 split
 ·have := dec_short 9 v.natAbs (by omega);simp;omega
 ·have := dec_short 9 v.toNat (by omega);omega
end Go.Pv


set_option maxHeartbeats 2000000
namespace Go.Pv
attribute [local irreducible] PWP POps PQuiet PSem XThen XBlock RetPost InlPost
open Go.Proofs
structure GoodP (c : SPost) : Prop where
 chk : checkE c = 0
 cln : cleanP c = c
theorem txt_name {c : SPost} (hc : checkE c = 0) {k : Nat} {f : Fd} (hf : (fdsOf c.op)[k]? = some f) (ht : f.isT = true) : isName (f.txt c) = true := by
 have he := fstE_zero (checkE_op hc).2.2 k f hf
 have key : ∀ s : Str,(if isName s = true then (0 : Int) else 4) = 0 → isName s = true := fun s h => by
  by_cases hn : isName s = true
  ·exact hn
  ·rw [if_neg hn] at h;omega
 cases f with
 |o => exact key _ he
 |i => exact key _ he
 |s => exact key _ he
 |w => exact key _ he
 |a lo hi => cases ht
 |r lo hi => cases ht
 |l lo hi => cases ht
theorem out_fine {c : SPost} (hc : checkE c = 0) {k : Nat} {f : Fd} (hf : (fdsOf c.op)[k]? = some f) : noB 32 (f.out c) ∧ (f.out c).length ≤ 12 := by
 have hl := num_lim hc hf
 cases f with
 |o => exact ⟨name_noB (txt_name hc hf rfl),hl⟩
 |i => exact ⟨name_noB (txt_name hc hf rfl),hl⟩
 |s => exact ⟨name_noB (txt_name hc hf rfl),hl⟩
 |w => exact ⟨name_noB (txt_name hc hf rfl),hl⟩
 |a lo hi => exact ⟨itoa_noB _,by have := itoa_short hl.1 hl.2;show (Lib.itoa _).length ≤ 12;omega⟩
 |r lo hi => exact ⟨itoa_noB _,by have := itoa_short hl.1 hl.2;show (Lib.itoa _).length ≤ 12;omega⟩
 |l lo hi => exact ⟨itoa_noB _,by have := itoa_short hl.1 hl.2;show (Lib.itoa _).length ≤ 12;omega⟩
theorem word_fine {op : Int} (h : inside op 0 8 = true) : noB 32 (wordOf op) ∧ (wordOf op).length ≤ 12 ∧ (idx wordL fun x => decide (wordOf op = x)) = op ∧ wrdK (wordOf op) 9 = op := by
 rcases op_cases h with rfl | rfl | rfl | rfl | rfl | rfl | rfl | rfl | rfl <;> exact ⟨by unfold noB;decide,by decide,by decide,by decide⟩
def pcs (c : SPost) : List Str := Lib.itoa c.day :: wordOf c.op :: (fdsOf c.op).map (Fd.out c)
theorem text_pcs (c : SPost) : textP c = Lib.join (pcs c) [32] := by rw [textP,outL,List.take_length];rfl
theorem day_lim {c : SPost} (hc : checkE c = 0) : 0 ≤ c.day ∧ c.day ≤ 10000 := by simpa [inside] using (checkE_op hc).2.1
theorem cut_text {c : SPost} (hc : checkE c = 0) : cutL 32 (textP c) = pcs c := by
 rw [text_pcs,pcs,Lib.join_cons]
 refine cut_join _ _ (itoa_noB _) fun y hy => ?_
 rcases List.mem_cons.1 hy with rfl | hy
 ·exact (word_fine (checkE_op hc).1).1
 ·obtain ⟨f,hf,rfl⟩ := List.mem_map.1 hy
  obtain ⟨k,hk,rfl⟩ := List.getElem_of_mem hf
  exact (out_fine hc (List.getElem?_eq_getElem hk)).1
theorem pcs_at {c : SPost} {k : Nat} {f : Fd} (hf : (fdsOf c.op)[k]? = some f) : (pcs c).getD (2 + k) [] = f.out c := by
 rw [pcs,List.getD_eq_getElem?_getD,show 2 + k = k + 1 + 1 by omega,List.getElem?_cons_succ,List.getElem?_cons_succ,List.getElem?_map,hf];rfl
theorem pcs_len (c : SPost) : (pcs c).length = (fdsOf c.op).length + 2 := by simp [pcs]
theorem text_short {c : SPost} (hc : checkE c = 0) : (textP c).length ≤ 200 := by
 have hall : ∀ x,x ∈ pcs c → x.length ≤ 12 := by
  intro x hx
  rcases List.mem_cons.1 hx with rfl | hx
  ·have := day_lim hc
   have := itoa_short (v := c.day) (by omega) (by omega);omega
  rcases List.mem_cons.1 hx with rfl | hx
  ·exact (word_fine (checkE_op hc).1).2.1
  ·obtain ⟨f,hf,rfl⟩ := List.mem_map.1 hx
   obtain ⟨k,hk,rfl⟩ := List.getElem_of_mem hf
   exact (out_fine hc (List.getElem?_eq_getElem hk)).2
 have hs := lens_le hall
 have hl := pcs_len c
 have hfl := fdsOf_len c.op
 rw [text_pcs]
 generalize pcs c = L at *
 cases L with
 |nil => simp [Lib.join_nil]
 |cons x r =>
  rw [Lib.join_length]
  simp only [List.length_cons,List.length_nil] at *
  omega
theorem get_fd {fs : List Fd} {k : Nat} {f : Fd} (h : fs[k]? = some f) : fs.getD k .o = f := by rw [List.getD_eq_getElem?_getD,h];rfl
theorem setP_good {c : SPost} (hc : checkE c = 0) : ∀ k,k ≤ (fdsOf c.op).length → setP (fdsOf c.op) (pcs c) ⟨c.op,c.day,[],[],[],[],0,0,0⟩ k = some (cpyK c ((fdsOf c.op).take k))
 |0,_ => rfl
 |k + 1,hk => by
  obtain ⟨f,hf⟩ := get_lt (show k < (fdsOf c.op).length by omega)
  have hl := num_lim hc hf
  rw [setP,setP_good hc k (by omega),cpyK_snoc c hf,get_fd hf,pcs_at hf]
  show setP1 f (f.out c) _ = _
  generalize cpyK c ((fdsOf c.op).take k) = q
  cases f with
  |o => rfl
  |i => rfl
  |s => rfl
  |w => rfl
  |a lo hi =>
   have hl : -1000000000 ≤ c.amount ∧ c.amount ≤ 1000000000 := hl
   show (match Lib.atoiAll (Lib.itoa c.amount) with | .ok n => some ((Fd.a lo hi).put q _ n) | _ => none) = _
   rw [atoi_itoa (by omega) (by omega)];rfl
  |r lo hi =>
   have hl : -1000000000 ≤ c.ref ∧ c.ref ≤ 1000000000 := hl
   show (match Lib.atoiAll (Lib.itoa c.ref) with | .ok n => some ((Fd.r lo hi).put q _ n) | _ => none) = _
   rw [atoi_itoa (by omega) (by omega)];rfl
  |l lo hi =>
   have hl : -1000000000 ≤ c.role ∧ c.role ≤ 1000000000 := hl
   show (match Lib.atoiAll (Lib.itoa c.role) with | .ok n => some ((Fd.l lo hi).put q _ n) | _ => none) = _
   rw [atoi_itoa (by omega) (by omega)];rfl
theorem setK_good {c : SPost} (hc : checkE c = 0) : ∀ k,k ≤ (fdsOf c.op).length → setK (fdsOf c.op) (pcs c) ⟨c.op,c.day,[],[],[],[],0,0,0⟩ k = (cpyK c ((fdsOf c.op).take k),true)
 |0,_ => rfl
 |k + 1,hk => by
  obtain ⟨f,hf⟩ := get_lt (show k < (fdsOf c.op).length by omega)
  have hl := num_lim hc hf
  rw [setK,setK_good hc k (by omega),cpyK_snoc c hf,get_fd hf,pcs_at hf]
  dsimp only
  generalize cpyK c ((fdsOf c.op).take k) = q
  cases f with
  |o => rfl
  |i => rfl
  |s => rfl
  |w => rfl
  |a lo hi =>
   have hl : -1000000000 ≤ c.amount ∧ c.amount ≤ 1000000000 := hl
   have := nmR_itoa hl.1 hl.2
   show ((Fd.a lo hi).put q (Lib.itoa c.amount) (nmR (Lib.itoa c.amount)).1,true && (!true || (nmR (Lib.itoa c.amount)).2)) = _
   rw [this];rfl
  |r lo hi =>
   have hl : -1000000000 ≤ c.ref ∧ c.ref ≤ 1000000000 := hl
   have := nmR_itoa hl.1 hl.2
   show ((Fd.r lo hi).put q (Lib.itoa c.ref) (nmR (Lib.itoa c.ref)).1,true && (!true || (nmR (Lib.itoa c.ref)).2)) = _
   rw [this];rfl
  |l lo hi =>
   have hl : -1000000000 ≤ c.role ∧ c.role ≤ 1000000000 := hl
   have := nmR_itoa hl.1 hl.2
   show ((Fd.l lo hi).put q (Lib.itoa c.role) (nmR (Lib.itoa c.role)).1,true && (!true || (nmR (Lib.itoa c.role)).2)) = _
   rw [this];rfl
theorem cln_all {c : SPost} (h : cleanP c = c) : cpyK c ((fdsOf c.op).take (fdsOf c.op).length) = c := by rw [List.take_length];exact h
theorem prog_good {c : SPost} (h : GoodP c) : progC (textP c) = some c := by
 have hc := h.chk
 have hd := day_lim hc
 have hop : 0 ≤ c.op ∧ c.op ≤ 8 := by simpa [inside] using (checkE_op hc).1
 obtain ⟨_,_,w3,_⟩ := word_fine (checkE_op hc).1
 have hset := setP_good hc _ (Nat.le_refl _)
 rw [cln_all h.cln] at hset
 have hl := pcs_len c
 rw [progC,cut_text hc,progC1,if_neg (by omega)]
 have e0 : (pcs c).getD 0 [] = Lib.itoa c.day := rfl
 have e1 : (pcs c).getD 1 [] = wordOf c.op := rfl
 rw [e0,e1,atoi_itoa (by omega) (by omega),w3]
 show progC2 _ _ c.day c.op = _
 rw [progC2,if_neg (by omega),if_neg (by omega),hset,progF,if_pos ⟨hc,rfl⟩]
theorem ref_good {c : SPost} (h : GoodP c) : refC (textP c) = some c := by
 have hc := h.chk
 have hd := day_lim hc
 have hop : 0 ≤ c.op ∧ c.op ≤ 8 := by simpa [inside] using (checkE_op hc).1
 obtain ⟨_,_,_,w4⟩ := word_fine (checkE_op hc).1
 have hset := setK_good hc _ (Nat.le_refl _)
 rw [cln_all h.cln] at hset
 have hl := pcs_len c
 have hs := text_short hc
 rw [refC,if_neg (by omega),cut_all,cut_text hc]
 have e0 : (pcs c).getD 0 [] = Lib.itoa c.day := rfl
 have e1 : (pcs c).getD 1 [] = wordOf c.op := rfl
 rw [opL,if_pos (by omega),e0,e1,nmR_itoa (by omega) (by omega),w4]
 show refC2 _ _ c.op c.day true = _
 rw [refC2,if_neg (by simp;omega),if_neg (by omega),hset]
 dsimp only
 rw [if_pos ⟨rfl,hc,rfl⟩]
theorem put_op (f : Fd) (q : SPost) (x : Str) (n : Int) : (f.put q x n).op = q.op := by cases f <;> rfl
theorem put_clean {f : Fd} {q : SPost} {x : Str} {n : Int} (hi : inside q.op 0 8 = true) (hf : f ∈ fdsOf q.op) (h : cleanP q = q) : cleanP (f.put q x n) = f.put q x n := by
 obtain ⟨op,day,o,i,s,w,a,r,ro⟩ := q
 simp only at hi hf
 rcases op_cases hi with rfl | rfl | rfl | rfl | rfl | rfl | rfl | rfl | rfl <;> simp [fdsOf] at hf
 ·have h' : (⟨0,day,o,[],s,[],0,0,0⟩ : SPost) = ⟨0,day,o,i,s,w,a,r,ro⟩ := h
  simp only [SPost.mk.injEq,true_and,and_true] at h'
  obtain ⟨rfl,rfl,rfl,rfl,rfl⟩ := h'
  rcases hf with rfl | rfl <;> rfl
 ·have h' : (⟨1,day,o,i,[],[],a,0,0⟩ : SPost) = ⟨1,day,o,i,s,w,a,r,ro⟩ := h
  simp only [SPost.mk.injEq,true_and,and_true] at h'
  obtain ⟨rfl,rfl,rfl,rfl⟩ := h'
  rcases hf with rfl | rfl | rfl <;> rfl
 ·have h' : (⟨2,day,o,i,[],[],a,0,0⟩ : SPost) = ⟨2,day,o,i,s,w,a,r,ro⟩ := h
  simp only [SPost.mk.injEq,true_and,and_true] at h'
  obtain ⟨rfl,rfl,rfl,rfl⟩ := h'
  rcases hf with rfl | rfl | rfl <;> rfl
 ·have h' : (⟨3,day,o,i,[],w,a,0,0⟩ : SPost) = ⟨3,day,o,i,s,w,a,r,ro⟩ := h
  simp only [SPost.mk.injEq,true_and,and_true] at h'
  obtain ⟨rfl,rfl,rfl⟩ := h'
  rcases hf with rfl | rfl | rfl | rfl <;> rfl
 ·have h' : (⟨4,day,[],[],[],w,0,r,ro⟩ : SPost) = ⟨4,day,o,i,s,w,a,r,ro⟩ := h
  simp only [SPost.mk.injEq,true_and,and_true] at h'
  obtain ⟨rfl,rfl,rfl,rfl⟩ := h'
  rcases hf with rfl | rfl | rfl <;> rfl
 ·have h' : (⟨5,day,[],[],[],[],a,r,0⟩ : SPost) = ⟨5,day,o,i,s,w,a,r,ro⟩ := h
  simp only [SPost.mk.injEq,true_and,and_true] at h'
  obtain ⟨rfl,rfl,rfl,rfl,rfl⟩ := h'
  rcases hf with rfl | rfl <;> rfl
 ·have h' : (⟨6,day,o,[],[],[],0,0,0⟩ : SPost) = ⟨6,day,o,i,s,w,a,r,ro⟩ := h
  simp only [SPost.mk.injEq,true_and,and_true] at h'
  obtain ⟨rfl,rfl,rfl,rfl,rfl,rfl⟩ := h'
  subst hf;rfl
 ·have h' : (⟨7,day,o,[],[],[],a,0,0⟩ : SPost) = ⟨7,day,o,i,s,w,a,r,ro⟩ := h
  simp only [SPost.mk.injEq,true_and,and_true] at h'
  obtain ⟨rfl,rfl,rfl,rfl,rfl⟩ := h'
  rcases hf with rfl | rfl <;> rfl
 ·have h' : (⟨8,day,[],[],[],[],0,r,0⟩ : SPost) = ⟨8,day,o,i,s,w,a,r,ro⟩ := h
  simp only [SPost.mk.injEq,true_and,and_true] at h'
  obtain ⟨rfl,rfl,rfl,rfl,rfl,rfl⟩ := h'
  subst hf;rfl
theorem base_clean {op d : Int} (hi : inside op 0 8 = true) : cleanP ⟨op,d,[],[],[],[],0,0,0⟩ = ⟨op,d,[],[],[],[],0,0,0⟩ := by
 rcases op_cases hi with rfl | rfl | rfl | rfl | rfl | rfl | rfl | rfl | rfl <;> rfl
theorem setP_clean {op d : Int} {l : List Str} (hi : inside op 0 8 = true) : ∀ (k : Nat) (q : SPost),k ≤ (fdsOf op).length → setP (fdsOf op) l ⟨op,d,[],[],[],[],0,0,0⟩ k = some q → q.op = op ∧ cleanP q = q
 |0,q,_,h => by cases h;exact ⟨rfl,base_clean hi⟩
 |k + 1,q,hk,h => by
  obtain ⟨f,hf⟩ := get_lt (show k < (fdsOf op).length by omega)
  rw [setP,get_fd hf] at h
  cases hp : setP (fdsOf op) l ⟨op,d,[],[],[],[],0,0,0⟩ k with
  |none => rw [hp] at h;cases h
  |some q0 =>
   rw [hp] at h
   have h : setP1 f (l.getD (2 + k) []) q0 = some q := h
   obtain ⟨i1,i2⟩ := setP_clean hi k q0 (by omega) hp
   obtain ⟨n,hq⟩ : ∃ n,q = f.put q0 (l.getD (2 + k) []) n := by
    rw [setP1] at h
    split at h
    ·split at h
     ·cases h;exact ⟨_,rfl⟩
     ·cases h
    ·cases h;exact ⟨_,rfl⟩
   subst hq
   have hm : f ∈ fdsOf q0.op := by rw [i1];exact List.mem_of_getElem? hf
   exact ⟨by rw [put_op,i1],put_clean (by rw [i1];exact hi) hm i2⟩
theorem setK_clean {op d : Int} {l : List Str} (hi : inside op 0 8 = true) : ∀ (k : Nat),k ≤ (fdsOf op).length → (setK (fdsOf op) l ⟨op,d,[],[],[],[],0,0,0⟩ k).1.op = op ∧ cleanP (setK (fdsOf op) l ⟨op,d,[],[],[],[],0,0,0⟩ k).1 = (setK (fdsOf op) l ⟨op,d,[],[],[],[],0,0,0⟩ k).1
 |0,_ => ⟨rfl,base_clean hi⟩
 |k + 1,hk => by
  obtain ⟨f,hf⟩ := get_lt (show k < (fdsOf op).length by omega)
  obtain ⟨i1,i2⟩ := setK_clean (l := l) (d := d) hi k (by omega)
  rw [setK,get_fd hf]
  dsimp only
  have hm : f ∈ fdsOf (setK (fdsOf op) l ⟨op,d,[],[],[],[],0,0,0⟩ k).1.op := by rw [i1];exact List.mem_of_getElem? hf
  exact ⟨by rw [put_op,i1],put_clean (by rw [i1];exact hi) hm i2⟩
theorem prog_sound {s : Str} {c : SPost} (h : progC s = some c) : GoodP c ∧ textP c = s := by
 rw [progC,progC1] at h
 split at h
 ·cases h
 ·split at h
  ·cases h
  ·have hib := idx_bounds wordL fun x => decide ((cutL 32 s).getD 1 [] = x)
   generalize (idx wordL fun x => decide ((cutL 32 s).getD 1 [] = x)) = op at *
   rw [progC2] at h
   split at h
   ·cases h
   ·split at h
    ·cases h
    ·rename_i hop _
     have hw9 : (wordL.length : Int) = 9 := rfl
     have hin : inside op 0 8 = true := by simp [inside];omega
     rename_i d _ _
     cases hp : setP (fdsOf op) (cutL 32 s) ⟨op,d,[],[],[],[],0,0,0⟩ (fdsOf op).length with
     |none => rw [hp] at h;cases h
     |some q =>
      rw [hp,progF] at h
      split at h
      ·rename_i hg
       cases h
       exact ⟨⟨hg.1,(setP_clean hin _ _ (Nat.le_refl _) hp).2⟩,hg.2⟩
      ·cases h
theorem ref_sound {s : Str} {c : SPost} (h : refC s = some c) : GoodP c ∧ textP c = s := by
 rw [refC] at h
 split at h
 ·cases h
 ·generalize hl : cutK s 32 s.length = l at *
  have hob : -1 ≤ opL l ∧ opL l < 9 := by
   rw [opL]
   split
   ·exact wrdK_b _ 9
   ·omega
  generalize opL l = op at *
  rw [refC2] at h
  split at h
  ·cases h
  ·split at h
   ·cases h
   ·split at h
    ·rename_i h1 _ hg
     cases h
     have hin : inside op 0 8 = true := by simp [inside];omega
     exact ⟨⟨hg.2.1,(setK_clean hin _ (Nat.le_refl _)).2⟩,hg.2.2⟩
    ·cases h
theorem both_read (s : Str) : refC s = progC s := by
 cases hp : progC s with
 |some c =>
  obtain ⟨h1,rfl⟩ := prog_sound hp
  exact ref_good h1
 |none =>
  cases hr : refC s with
  |none => rfl
  |some c =>
   obtain ⟨h1,rfl⟩ := ref_sound hr
   rw [prog_good h1] at hp
   cases hp
theorem text_clean {p : SPost} (h : checkE p = 0) : textP (cleanP p) = textP p := by
 have hi := (checkE_op h).1
 obtain ⟨op,day,o,i,s,w,a,r,ro⟩ := p
 simp only at hi
 rcases op_cases hi with rfl | rfl | rfl | rfl | rfl | rfl | rfl | rfl | rfl <;> rfl
theorem clean_good {p : SPost} (h : checkE p = 0) : GoodP (cleanP p) := by
 obtain ⟨e1,e2,_⟩ := clean_again (checkE_op h).1
 exact ⟨by rw [e2];exact h,e1⟩
theorem prog_back {p : SPost} (h : checkE p = 0) : progC (textP p) = some (cleanP p) := by
 rw [← text_clean h];exact prog_good (clean_good h)
end Go.Pv


set_option maxHeartbeats 2000000
namespace Go.Pv
attribute [local irreducible] PWP POps PQuiet PSem XThen XBlock RetPost InlPost
open Go.Proofs
set_option maxRecDepth 20000 in
theorem balance_ref (l : List SPost) (hA : Acc l) (o : Str) : Ret Tryz.prog .fresh 97 [.sl (l.map ePost),.str o] (if standE l (ordNo l o) = 0 then .tup [.agg (balV l o),I 0] else .tup [.agg [I 0,I 0,I 0,I 0,I 0,I 0],I (standE l (ordNo l o))]) := by
 have hO := hA.ok
 have hl := hO.wf.len
 have hll : ((l.map ePost).length : Int) = l.length := by simp
 have h1 := accounts_ref l hA o
 obtain ⟨hAn,hlim⟩ := accP_lim hA o
 by_cases hz : standE l (ordNo l o) = 0
 case neg =>
  rw [if_neg hz] at h1 ⊢
  refine Ret.of_pwp layOk mixed Go.Proofs.Tryz.func97 rfl (by decide) rfl rfl ?_
  repeat refine stq rfl ?_
  refine qst rfl rfl (q_cp rfl h1 rfl rfl rfl) ?_
  repeat refine stq rfl ?_
  refine pw_cond rfl (fun h => ?_) (fun h => ?_)
  ·repeat refine stq rfl ?_
   exact endc2f rfl rfl rfl rfl rfl (by repeat' constructor) rfl
  ·exact absurd (by simpa using h) hz
 rw [if_pos hz] at h1 ⊢
 rw [balV]
 generalize accP l o = A at *
 have hAl : ((A.map eAcct).length : Int) = A.length := by simp
 have b1 := fun j hj => sumI_lim (A := A) (f := (·.est)) (B := 400000000000) (fun a ha => (hlim a ha).1) j hj
 have b2 := fun j hj => sumI_lim (A := A) (f := (·.gro)) (B := 400000000000) (fun a ha => (hlim a ha).2.1) j hj
 have b3 := fun j hj => sumI_lim (A := A) (f := (·.chg)) (B := 400000000000) (fun a ha => (hlim a ha).2.2.1) j hj
 have b4 := fun j hj => sumI_lim (A := A) (f := (·.bil)) (B := 400000000000) (fun a ha => (hlim a ha).2.2.2) j hj
 refine Ret.of_pwp layOk mixed Go.Proofs.Tryz.func97 rfl (by decide) rfl rfl ?_
 repeat refine stq rfl ?_
 refine qst rfl rfl (q_cs rfl h1 rfl rfl) ?_
 repeat refine stq rfl ?_
 refine pw_loop (fun j => j ≤ A.length) (fun j => [(0,.sl (l.map ePost)),(1,.str o),(4,.ptr 4 1 0 0),(6,.sl (A.map eAcct)),(8,.ptr 8 1 0 0),(9,I j)])
  (fun j => [(4,1,⟨106,6,[[I 0,I 0,I 0,I 0,I 0,I 0]],2⟩),(8,1,⟨106,6,[[I (sumI A (·.est) j),I (sumI A (·.gro) j),I (sumI A (·.chg) j),I (sumI A (·.bil) j),I 0,I 0]],2⟩)]) (fun j => A.length - j) 0 (Nat.zero_le _) ⟨rfl,rfl,rfl,rfl,rfl,rfl,rfl,rfl,trivial⟩ ?_
 intro j s hj
 have hj : j ≤ A.length := hj
 repeat refine stq rfl ?_
 rw [hAl]
 refine pw_cond rfl (fun h => ?_) (fun h => ?_)
 ·have hlt : j < A.length := by have := of_decide_eq_true h;omega
  clear h
  obtain ⟨a,ha⟩ := get_lt hlt
  have w : ∀ (f : SAcct → Int),(∀ j,j ≤ A.length → -(400000000000 * (j : Int)) ≤ sumI A f j ∧ sumI A f j ≤ 400000000000 * (j : Int)) → IntKind.wrap .i64 (sumI A f j + f a) = sumI A f (j + 1) := fun f hb => by
   have := hb (j + 1) hlt
   rw [← sumI_succ ha,wrap_i64 (by omega) (by omega)]
  have w1 := w _ b1
  have w2 := w _ b2
  have w3 := w _ b3
  have w4 := w _ b4
  repeat refine stq rfl ?_
  refine pw_draw 9 [27,28,29,30,31,32,33,34,35] (by decide +kernel) ?_
  repeat refine stq rfl ?_
  refine qst rfl rfl (q_idxm rfl rfl rfl rfl rfl (by omega) ha rfl) ?_
  repeat refine stq rfl ?_
  refine pw_draw 9 [36,37,38,39,40,41,42,43,44] (by decide +kernel) ?_
  repeat refine stq rfl ?_
  refine qst rfl rfl (q_idxm rfl rfl rfl rfl rfl (by omega) ha rfl) ?_
  repeat refine stq rfl ?_
  refine pw_draw 9 [45,46,47,48,49,50,51,52,53] (by decide +kernel) ?_
  repeat refine stq rfl ?_
  refine qst rfl rfl (q_idxm rfl rfl rfl rfl rfl (by omega) ha rfl) ?_
  repeat refine stq rfl ?_
  refine pw_draw 9 [54,55,56,57,58,59,60,61,62] (by decide +kernel) ?_
  repeat refine stq rfl ?_
  refine qst rfl rfl (q_idxm rfl rfl rfl rfl rfl (by omega) ha rfl) ?_
  repeat refine stq rfl ?_
  exact ⟨j + 1,hlt,by omega,rfl,rfl,rfl,rfl,rfl,i64_next (by omega) (by omega),rfl,by rw [← w1,← w2,← w3,← w4];rfl,trivial⟩
 ·have hz : j = A.length := by have := of_decide_eq_false h;omega
  subst hz
  clear h
  have b4 := b4 A.length (Nat.le_refl _)
  generalize sumI A (·.est) A.length = s1 at *
  generalize sumI A (·.gro) A.length = s2 at *
  generalize sumI A (·.chg) A.length = s3 at *
  generalize sumI A (·.bil) A.length = s4 at *
  repeat refine stq rfl ?_
  refine pw_loop (fun k => k ≤ l.length) (fun k => [(0,.sl (l.map ePost)),(1,.str o),(4,.ptr 4 1 0 0),(8,.ptr 8 1 0 0),(10,I (k + 1))])
   (fun k => [(4,1,⟨106,6,[[I 0,I 0,I 0,I 0,I 0,I 0]],2⟩),(8,1,⟨106,6,[[I s1,I s2,I s3,I s4,I (payK l o k),I 0]],2⟩)]) (fun k => l.length - k) 0 (Nat.zero_le _) ⟨rfl,rfl,rfl,rfl,rfl,rfl,rfl,trivial⟩ ?_
  intro k s5 hk
  have hk : k ≤ l.length := hk
  have hpl := payK_lim hA o k hk
  repeat refine stq rfl ?_
  rw [hll]
  refine pw_cond rfl (fun h => ?_) (fun h => ?_)
  ·have hlt : k < l.length := by have := of_decide_eq_true h;omega
   clear h
   have hx := entL_at (l := l) (n := (k : Int) + 1) (by omega) (by omega)
   have hv := live_ref l hO.wf ((k : Int) + 1).toNat ((k : Int) + 1) (by omega) (by omega) (by omega)
   have hst : payK l o (k + 1) = if payB l o k = true then payK l o k + (entL l ((k : Int) + 1)).amount else payK l o k := rfl
   have hw : IntKind.wrap .i64 ((k : Int) + 1 - 1) = (k : Int) + 1 - 1 := wrap_i64 (by omega) (by omega)
   have hpl2 := payK_lim hA o (k + 1) hlt
   rw [payB] at hst
   generalize entL l ((k : Int) + 1) = x at *
   repeat refine stq rfl ?_
   rw [hw]
   refine qst rfl rfl (q_idxm rfl rfl rfl rfl rfl (by omega) hx rfl) ?_
   repeat refine stq rfl ?_
   (first|refine ps_split rfl rfl ?_ ?_|refine pq_split rfl rfl ?_ ?_|refine p3_split rfl rfl ?_ ?_)<;>intro h
   rotate_left
   ·have g1 := of_decide_eq_false h
    rw [decide_eq_false g1,Bool.false_and,Bool.false_and,if_neg (by simp)] at hst
    repeat refine stq rfl ?_
    exact ⟨k + 1,hlt,by omega,rfl,rfl,rfl,rfl,i64_next (by omega) (by omega),rfl,by rw [hst];rfl,trivial⟩
   have g1 := of_decide_eq_true h
   clear h
   rw [decide_eq_true g1,Bool.true_and] at hst
   repeat refine stq rfl ?_
   rw [hw]
   refine qst rfl rfl (q_idxm rfl rfl rfl rfl rfl (by omega) hx rfl) ?_
   repeat refine stq rfl ?_
   (first|refine ps_split rfl rfl ?_ ?_|refine pq_split rfl rfl ?_ ?_|refine p3_split rfl rfl ?_ ?_)<;>intro h
   rotate_left
   ·have g2 := of_decide_eq_false h
    rw [decide_eq_false g2,Bool.false_and,if_neg (by simp)] at hst
    repeat refine stq rfl ?_
    exact ⟨k + 1,hlt,by omega,rfl,rfl,rfl,rfl,i64_next (by omega) (by omega),rfl,by rw [hst];rfl,trivial⟩
   have g2 := of_decide_eq_true h
   clear h
   rw [decide_eq_true g2,Bool.true_and] at hst
   generalize liveB l ((k : Int) + 1) = lv at *
   repeat refine stq rfl ?_
   refine qst rfl rfl (q_cp rfl hv rfl rfl rfl) ?_
   cases lv with
   |false =>
    rw [if_neg (by simp)] at hst
    repeat refine stq rfl ?_
    exact ⟨k + 1,hlt,by omega,rfl,rfl,rfl,rfl,i64_next (by omega) (by omega),rfl,by rw [hst];rfl,trivial⟩
   |true =>
    rw [if_pos rfl] at hst
    have hwp : IntKind.wrap .i64 (payK l o k + x.amount) = payK l o (k + 1) := by rw [← hst,wrap_i64 (by omega) (by omega)]
    repeat refine stq rfl ?_
    refine pw_draw 10 [91,92,93,94,95,96,97,98,99,100] (by decide +kernel) ?_
    repeat refine stq rfl ?_
    rw [hw]
    refine qst rfl rfl (q_idxm rfl rfl rfl rfl rfl (by omega) hx rfl) ?_
    repeat refine stq rfl ?_
    exact ⟨k + 1,hlt,by omega,rfl,rfl,rfl,rfl,i64_next (by omega) (by omega),rfl,by rw [← hwp];rfl,trivial⟩
  ·have hz : k = l.length := by have := of_decide_eq_false h;omega
   subst hz
   have hwd : IntKind.wrap .i64 (s4 - payK l o l.length) = s4 - payK l o l.length := wrap_i64 (by omega) (by omega)
   repeat refine stq rfl ?_
   rw [hwd]
   repeat refine stq rfl ?_
   exact endc2f rfl rfl rfl rfl rfl (by repeat' constructor) rfl
theorem join_take {xs : List Str} {sep : Str} {k : Nat} {y : Str} (h : xs[k]? = some y) : Lib.join (xs.take (k + 1)) sep = if k = 0 then y else Lib.join (xs.take k) sep ++ sep ++ y := by
 cases xs with
 |nil => simp at h
 |cons x r =>
  cases k with
  |zero => simp at h;subst h;simp [Lib.join_one]
  |succ k =>
   simp only [List.getElem?_cons_succ] at h
   rw [if_neg (by omega),List.take_succ_cons,List.take_succ_cons,Lib.join_cons,Lib.join_cons,Lib.joinTail_take_succ sep r k y h]
   simp
def Mid (n : Int) : Prop := -1000000000000000 ≤ n ∧ n ≤ 1000000000000000
theorem itoa_mid {v : Int} (h : Mid v) : (Lib.itoa v).length ≤ 17 := by
 obtain ⟨h0,h1⟩ := h
 rw [Lib.itoa]
 split
 ·have := dec_short 15 v.natAbs (by omega);simp;omega
 ·have := dec_short 15 v.toNat (by omega);omega
theorem itoa_some (v : Int) : Lib.itoa v ≠ [] := by
 rw [Lib.itoa]
 split
 ·simp
 ·exact dec_ne _
theorem join_len' {xs : List Str} {B : Nat} (sep : Str) (h : ∀ x,x ∈ xs → x.length ≤ B) : ∀ k,k ≤ xs.length → (Lib.join (xs.take k) sep).length ≤ k * (B + sep.length)
 |0,_ => by simp [Lib.join_nil]
 |k + 1,hk => by
  have ih := join_len' sep h k (by omega)
  obtain ⟨y,hy⟩ := get_lt (show k < xs.length by omega)
  have := h y (List.mem_of_getElem? hy)
  rw [join_take hy,Nat.add_mul]
  split
  ·omega
  ·simp only [List.length_append];omega
theorem join_all_len {xs : List Str} {B : Nat} (sep : Str) (h : ∀ x,x ∈ xs → x.length ≤ B) : (Lib.join xs sep).length ≤ xs.length * (B + sep.length) := by
 have := join_len' sep h xs.length (Nat.le_refl _)
 rwa [List.take_length] at this
def numsT (ns : List Int) (sep : Str) : Str := Lib.join (ns.map Lib.itoa) sep
theorem nums_at {ns : List Int} {k : Nat} {n : Int} (h : ns[k]? = some n) (sep : Str) : numsT (ns.take (k + 1)) sep = if k = 0 then Lib.itoa n else numsT (ns.take k) sep ++ sep ++ Lib.itoa n := by
 rw [numsT,numsT,List.map_take,List.map_take]
 exact join_take (by rw [List.getElem?_map,h];rfl)
theorem nums_len {ns : List Int} (h : ∀ n,n ∈ ns → Mid n) {sep : Str} (hs : sep.length = 1) : ∀ k,k ≤ ns.length → (numsT (ns.take k) sep).length ≤ k * 18 := fun k hk => by
 have := join_len' (xs := ns.map Lib.itoa) (B := 17) sep (fun x hx => by obtain ⟨n,hn,rfl⟩ := List.mem_map.1 hx;exact itoa_mid (h n hn)) k (by simpa using hk)
 rw [hs] at this
 rw [numsT,List.map_take]
 exact this
theorem nums_nil {ns : List Int} {sep : Str} : numsT ns sep = [] ↔ ns = [] := by
 constructor
 ·intro h
  cases ns with
  |nil => rfl
  |cons n r =>
   rw [numsT,List.map_cons,Lib.join_cons] at h
   exact absurd (List.append_eq_nil_iff.1 h).1 (itoa_some n)
 ·rintro rfl;rfl
set_option maxRecDepth 20000 in
theorem row_ref (ns : List Int) (h : ∀ n,n ∈ ns → Mid n) (hn : ns.length ≤ 1000000) : Ret Tryz.prog .shared 98 [.sl (ns.map eI)] (.str (numsT ns [32])) := by
 have hll : ((ns.map eI).length : Int) = ns.length := by simp
 have hb := nums_len h (sep := [32]) rfl
 refine Ret.of_pwp layOk mixed Go.Proofs.Tryz.func98 rfl (by decide) rfl rfl ?_
 repeat refine stq rfl ?_
 refine pw_loop (fun k => k ≤ ns.length) (fun k => [(0,.sl (ns.map eI)),(3,.str (numsT (ns.take k) [32])),(4,I k)]) (fun _ => []) (fun k => ns.length - k) 0 (Nat.zero_le _) ⟨rfl,rfl,rfl,trivial⟩ ?_
 intro k s hk
 have hk : k ≤ ns.length := hk
 have hbk := hb k hk
 repeat refine stq rfl ?_
 rw [hll]
 refine pw_cond rfl (fun h => ?_) (fun h => ?_)
 ·have hlt : k < ns.length := by have := of_decide_eq_true h;omega
  clear h
  obtain ⟨n,hx⟩ := get_lt hlt
  have hm := (‹∀ n,n ∈ ns → Mid n› n (List.mem_of_getElem? hx))
  have hd := decimal_ret n hm.1 hm.2
  have hdl := itoa_mid hm
  have hs := nums_at hx [32]
  generalize numsT (ns.take k) [32] = S at *
  generalize Lib.itoa n = D at *
  repeat refine stq rfl ?_
  refine pw_cond rfl (fun h => ?_) (fun h => ?_)
  ·have hk0 : ¬ k = 0 := by have := of_decide_eq_true h;omega
   rw [if_neg hk0] at hs
   clear h
   repeat refine stx rfl ?_
   refine ps_v rfl (show ((S.length : Nat) : Int) + ((([32] : Str).length : Nat) : Int) ≤ 9223372036854775807 by simp;omega) ?_
   repeat refine stx rfl ?_
   refine qst rfl rfl (q_idxm rfl rfl rfl rfl rfl (by omega) hx rfl) ?_
   repeat refine stx rfl ?_
   refine qst rfl rfl (q_cp rfl hd rfl rfl rfl) ?_
   refine ps_v rfl (show (((S ++ [32]).length : Nat) : Int) + ((D.length : Nat) : Int) ≤ 9223372036854775807 by simp;omega) ?_
   repeat refine stx rfl ?_
   exact ⟨k + 1,hlt,by omega,rfl,by rw [hs];rfl,i64_next (by omega) (by omega),trivial⟩
  ·have hk0 : k = 0 := by have := of_decide_eq_false h;omega
   clear h
   subst hk0
   rw [if_pos rfl] at hs
   have hS : S = [] := by
    have := hbk
    exact List.eq_nil_of_length_eq_zero (by omega)
   subst hS
   repeat refine stx rfl ?_
   refine qst rfl rfl (q_idxm rfl rfl rfl rfl rfl (by omega) hx rfl) ?_
   repeat refine stx rfl ?_
   refine qst rfl rfl (q_cp rfl hd rfl rfl rfl) ?_
   refine ps_v rfl (show ((([] : Str).length : Nat) : Int) + ((D.length : Nat) : Int) ≤ 9223372036854775807 by simp;omega) ?_
   repeat refine stx rfl ?_
   exact ⟨0 + 1,hlt,by omega,rfl,by rw [hs];rfl,i64_next (by omega) (by omega),trivial⟩
 ·have hz : k = ns.length := by have := of_decide_eq_false h;omega
  subst hz
  rw [List.take_length] at *
  repeat refine stq rfl ?_
  exact end1 rfl rfl rfl trivial rfl
end Go.Pv


set_option maxHeartbeats 2000000
namespace Go.Pv
attribute [local irreducible] PWP POps PQuiet PSem XThen XBlock RetPost InlPost
open Go.Proofs
def listT (ns : List Int) : Str := if ns = [] then [45] else numsT ns [44]
theorem listT_len {ns : List Int} (h : ∀ n,n ∈ ns → Mid n) : (listT ns).length ≤ ns.length * 18 + 1 := by
 rw [listT]
 split
 ·simp
 ·have := nums_len h (sep := [44]) rfl ns.length (Nat.le_refl _)
  rw [List.take_length] at this
  omega
set_option maxRecDepth 20000 in
theorem joined_ref (ns : List Int) (hm : ∀ n,n ∈ ns → Mid n) (hn : ns.length ≤ 1000000) : Ret Tryz.prog .shared 100 [.sl (ns.map eI)] (.str (listT ns)) := by
 have hll : ((ns.map eI).length : Int) = ns.length := by simp
 have hb := nums_len hm (sep := [44]) rfl
 refine Ret.of_pwp layOk mixed Go.Proofs.Tryz.func100 rfl (by decide) rfl rfl ?_
 repeat refine stq rfl ?_
 refine pw_loop (fun k => k ≤ ns.length) (fun k => [(0,.sl (ns.map eI)),(3,.str (numsT (ns.take k) [44])),(4,I k)]) (fun _ => []) (fun k => ns.length - k) 0 (Nat.zero_le _) ⟨rfl,rfl,rfl,trivial⟩ ?_
 intro k s hk
 have hk : k ≤ ns.length := hk
 have hbk := hb k hk
 repeat refine stq rfl ?_
 rw [hll]
 refine pw_cond rfl (fun h => ?_) (fun h => ?_)
 ·have hlt : k < ns.length := by have := of_decide_eq_true h;omega
  clear h
  obtain ⟨n,hx⟩ := get_lt hlt
  have hm := hm n (List.mem_of_getElem? hx)
  have hd := decimal_ret n hm.1 hm.2
  have hdl := itoa_mid hm
  have hs := nums_at hx [44]
  generalize numsT (ns.take k) [44] = S at *
  generalize Lib.itoa n = D at *
  repeat refine stq rfl ?_
  refine pw_cond rfl (fun h => ?_) (fun h => ?_)
  ·have hk0 : ¬ k = 0 := by have := of_decide_eq_true h;omega
   rw [if_neg hk0] at hs
   clear h
   repeat refine stx rfl ?_
   refine ps_v rfl (show ((S.length : Nat) : Int) + ((([44] : Str).length : Nat) : Int) ≤ 9223372036854775807 by simp;omega) ?_
   repeat refine stx rfl ?_
   refine qst rfl rfl (q_idxm rfl rfl rfl rfl rfl (by omega) hx rfl) ?_
   repeat refine stx rfl ?_
   refine qst rfl rfl (q_cp rfl hd rfl rfl rfl) ?_
   refine ps_v rfl (show (((S ++ [44]).length : Nat) : Int) + ((D.length : Nat) : Int) ≤ 9223372036854775807 by simp;omega) ?_
   repeat refine stx rfl ?_
   exact ⟨k + 1,hlt,by omega,rfl,by rw [hs];rfl,i64_next (by omega) (by omega),trivial⟩
  ·have hk0 : k = 0 := by have := of_decide_eq_false h;omega
   clear h
   subst hk0
   rw [if_pos rfl] at hs
   have hS : S = [] := by
    have := hbk
    exact List.eq_nil_of_length_eq_zero (by omega)
   subst hS
   repeat refine stx rfl ?_
   refine qst rfl rfl (q_idxm rfl rfl rfl rfl rfl (by omega) hx rfl) ?_
   repeat refine stx rfl ?_
   refine qst rfl rfl (q_cp rfl hd rfl rfl rfl) ?_
   refine ps_v rfl (show ((([] : Str).length : Nat) : Int) + ((D.length : Nat) : Int) ≤ 9223372036854775807 by simp;omega) ?_
   repeat refine stx rfl ?_
   exact ⟨0 + 1,hlt,by omega,rfl,by rw [hs];rfl,i64_next (by omega) (by omega),trivial⟩
 ·have hz : k = ns.length := by have := of_decide_eq_false h;omega
  subst hz
  rw [List.take_length] at *
  rw [listT]
  repeat refine stq rfl ?_
  refine pw_cond rfl (fun h => ?_) (fun h => ?_)
  ·have h0 : ns = [] := nums_nil.1 (by simpa using h)
   rw [if_pos h0]
   repeat refine stq rfl ?_
   exact end1 rfl rfl rfl trivial rfl
  ·have h0 : ¬ ns = [] := fun e => absurd (nums_nil (sep := [44]).2 e) (by simpa using h)
   rw [if_neg h0]
   repeat refine stq rfl ?_
   exact end1 rfl rfl rfl trivial rfl
theorem list_nil_ret : Ret Tryz.prog .shared 138 [.nil] (.str (listT [])) := by
 refine Ret.of_pwp layOk mixed Go.Proofs.Tryz.func138 rfl (by decide) rfl rfl ?_
 repeat refine stq rfl ?_
 exact end1 rfl rfl rfl trivial rfl
theorem strs_len {ns : List Int} (hm : ∀ n,n ∈ ns → Mid n) : ∀ x,x ∈ ns.map Lib.itoa → x.length ≤ 17 := fun x hx => by
 obtain ⟨n,hn,rfl⟩ := List.mem_map.1 hx
 exact itoa_mid (hm n hn)
set_option maxRecDepth 20000 in
theorem list_ret (ns : List Int) (hm : ∀ n,n ∈ ns → Mid n) (hn : ns.length ≤ 1000000) : Ret Tryz.prog .shared 138 [.sl (ns.map eI)] (.str (listT ns)) := by
 have hll : ((ns.map eI).length : Int) = ns.length := by simp
 have hjl := join_all_len (xs := ns.map Lib.itoa) [44] (strs_len hm)
 rw [List.length_map] at hjl
 have hj := join_ret (ns.map Lib.itoa) [44] (by rw [List.length_map];omega) (by simp only [List.length_cons,List.length_nil] at hjl;omega)
 rw [listT]
 by_cases h0 : ns = []
 ·subst h0
  rw [if_pos rfl]
  refine Ret.of_pwp layOk mixed Go.Proofs.Tryz.func138 rfl (by decide) rfl rfl ?_
  repeat refine stq rfl ?_
  exact end1 rfl rfl rfl trivial rfl
 have hne : ¬ ns.length = 0 := fun e => h0 (List.eq_nil_of_length_eq_zero e)
 rw [if_neg h0]
 refine Ret.of_pwp layOk mixed Go.Proofs.Tryz.func138 rfl (by decide) rfl rfl ?_
 repeat refine stq rfl ?_
 rw [hll]
 refine pw_cond rfl (fun h => ?_) (fun h => ?_)
 ·exact absurd (of_decide_eq_true h) (by omega)
 clear h
 repeat refine stq rfl ?_
 refine pw_ghost (Ghost.nilreg (k := 3) (t := 3) 9 1 0 rfl rfl) ?_
 rw [hll]
 refine pw_loop (fun (j : Nat × Nat) => j.1 ≤ ns.length) (fun j => [(3,.als 3 j.2 0 (((ns.take j.1).map Lib.itoa).map eS).length),(9,.sl (ns.map eI)),(10,I ns.length),(11,I j.1)]) (fun j => [(3,j.2,⟨9,1,((ns.take j.1).map Lib.itoa).map eS,0⟩)]) (fun j => ns.length - j.1) (0,1) (Nat.zero_le _) ⟨rfl,rfl,rfl,rfl,rfl,trivial⟩ ?_
 rintro ⟨j,g⟩ s hjn
 have hjn : j ≤ ns.length := hjn
 repeat refine stq rfl ?_
 refine pw_cond rfl (fun h => ?_) (fun h => ?_)
 ·have hlt : j < ns.length := by have := of_decide_eq_true h;omega
  clear h
  obtain ⟨n,hx⟩ := get_lt hlt
  have hmn := hm n (List.mem_of_getElem? hx)
  have hi := itoa_ret n (by have := hmn.1;omega) (by have := hmn.2;omega)
  have htk : (ns.take (j + 1)).map Lib.itoa = (ns.take j).map Lib.itoa ++ [Lib.itoa n] := by rw [take_snoc hx,List.map_append];rfl
  have hlen : ((ns.take j).map Lib.itoa).length = j := by rw [List.length_map,List.length_take];omega
  repeat refine stq rfl ?_
  refine qst rfl rfl (q_idxm rfl rfl rfl rfl rfl (by omega) hx rfl) ?_
  repeat refine stq rfl ?_
  refine qst rfl rfl (q_cp rfl hi rfl rfl rfl) ?_
  repeat refine stq rfl ?_
  refine qst rfl rfl (q_slit rfl rfl rfl rfl rfl rfl rfl rfl rfl rfl (by repeat' constructor) rfl) ?_
  repeat refine stq rfl ?_
  refine ps_run (o_app 0 rfl rfl rfl rfl rfl rfl rfl rfl rfl rfl rfl (by repeat' constructor) (by intro row hr;first | (simp at hr;subst hr;rfl) | simp at hr) rfl rfl (by simp;omega) (by simp;omega) ?_)
  repeat refine stq rfl ?_
  refine ⟨(j + 1,g + 1),hlt,by show ns.length - (j + 1) < ns.length - j;omega,?_,rfl,rfl,i64_next (by omega) (by omega),?_,trivial⟩
  ·show _ = PV.als 3 (g + 1) 0 (((ns.take (j + 1)).map Lib.itoa).map eS).length
   rw [htk,List.map_append];rfl
  ·show _ = (g + 1,some (Cont.mk 9 1 (((ns.take (j + 1)).map Lib.itoa).map eS) 0))
   rw [htk,List.map_append];rfl
 ·have hz : j = ns.length := by have := of_decide_eq_false h;omega
  subst hz
  rw [List.take_length] at *
  repeat refine stq rfl ?_
  refine qst rfl rfl (q_cp rfl hj rfl rfl rfl) ?_
  repeat refine stq rfl ?_
  exact end1 rfl rfl rfl trivial rfl
def answT (s : Str) (e : Int) : Str := if e = 0 then s else [101,114,114,111,114,32] ++ Lib.itoa e
theorem answered_ret (s : Str) (e : Int) (he : Mid e) : Ret Tryz.prog .shared 88 [.str s,I e] (.str (answT s e)) := by
 have hi := itoa_ret e (by have := he.1;omega) (by have := he.2;omega)
 have hl := itoa_mid he
 rw [answT]
 by_cases h0 : e = 0
 ·rw [if_pos h0]
  refine Ret.of_pwp layOk mixed Go.Proofs.Tryz.func88 rfl (by decide) rfl rfl ?_
  repeat refine stq rfl ?_
  refine pw_cond rfl (fun h => ?_) (fun h => ?_)
  ·exact absurd h0 (by simpa using h)
  ·repeat refine stq rfl ?_
   exact end1 rfl rfl rfl trivial rfl
 ·rw [if_neg h0]
  generalize Lib.itoa e = D at *
  refine Ret.of_pwp layOk mixed Go.Proofs.Tryz.func88 rfl (by decide) rfl rfl ?_
  repeat refine stq rfl ?_
  refine pw_cond rfl (fun h => ?_) (fun h => ?_)
  ·repeat refine stx rfl ?_
   refine qst rfl rfl (q_cp rfl hi rfl rfl rfl) ?_
   refine ps_v rfl (show ((([101,114,114,111,114,32] : Str).length : Nat) : Int) + ((D.length : Nat) : Int) ≤ 9223372036854775807 by simp;omega) ?_
   repeat refine stx rfl ?_
   exact end1 rfl rfl rfl trivial rfl
  ·exact absurd (by simpa using h) h0
def rowT (ws : List Str) (ns : List Int) : Str := Lib.join (ws ++ ns.map Lib.itoa) [32]
set_option maxRecDepth 20000 in
theorem row_inl {K : St → Prop} {s : St} {d g g7 : Nat} {c7 : Cont} {x y : Operand} {tys : Array TypeId} {ty : TypeId} {pos : String} {af : Array Edge} (ws : List Str) (ns : List Int) (hw : ∀ x,x ∈ ws → x.length ≤ 17) (hwl : ws.length ≤ 1000) (hm : ∀ n,n ∈ ns → Mid n) (hn : ns.length ≤ 1000)
  (hx : s.ev x = .als 35 g 0 (ws.map eS).length) (hy : s.ev y = .fsl (ns.map eI)) (ho : FitO s [(35,g,⟨9,1,ws.map eS,0⟩),(7,g7,c7)])
  (hk : ∀ s1 : St,K (({ reg := s.reg,own := (s1.over [] [(7,g7,c7)]).own } : St).putR d (.str (rowT ws ns)))) :
  Sm Tryz.prog lay.get s ⟨some d,.call ⟨.value (.func 137),#[x,y],tys⟩,ty,pos,af,none⟩ K := by
 have hll : ((ns.map eI).length : Int) = ns.length := by simp
 have hjl := join_all_len (xs := ws ++ ns.map Lib.itoa) (B := 17) [32] (fun x hx => (List.mem_append.1 hx).elim (hw x) (strs_len hm x))
 rw [List.length_append,List.length_map] at hjl
 have hj := join_ret (ws ++ ns.map Lib.itoa) [32] (by rw [List.length_append,List.length_map];omega) (by simp only [List.length_cons,List.length_nil] at hjl;omega)
 rw [rowT] at hk
 refine sm_inline layOk rfl rfl Tryz.func137 rfl (by decide) rfl rfl ?_
 show PWP _ _ _ _ (callSt s (([x,y] : List Operand).map s.ev ++ []))
 rw [show (([x,y] : List Operand).map s.ev ++ ([] : List PV)) = [.als 35 g 0 (ws.map eS).length,.fsl (ns.map eI)] by simp [hx,hy]]
 rw [show callSt s [.als 35 g 0 (ws.map eS).length,.fsl (ns.map eI)] = callSt (s.over [] [(35,g,⟨9,1,ws.map eS,0⟩),(7,g7,c7)]) [.als 35 g 0 (ws.map eS).length,.fsl (ns.map eI)] by rw [Fit.over (l := []) ho]]
 have fin : ∀ (st : St) (e : Exit),(e = .ret ∨ e = .normal) → st.reg 4 = .str (Lib.join (ws ++ ns.map Lib.itoa) [32]) → FitO st [(7,g7,c7)] → InlPost lay.get Tryz.f137 (fun s' r => K (({ reg := s.reg,own := s'.own } : St).putR d r)) e st := fun st e he h1 h3 =>
  inl_end1O (K := fun o r => K (({ reg := s.reg,own := o } : St).putR d r)) _ he rfl h1 h3 fun s1 => hk s1
 clear ho hx hy
 repeat refine stq rfl ?_
 rw [hll]
 refine pw_loop (fun (j : Nat × Nat) => j.1 ≤ ns.length) (fun j => [(0,.als 35 j.2 0 ((ws ++ (ns.take j.1).map Lib.itoa).map eS).length),(7,.fsl (ns.map eI)),(8,I ns.length),(9,I j.1)]) (fun j => [(35,j.2,⟨9,1,(ws ++ (ns.take j.1).map Lib.itoa).map eS,0⟩),(7,g7,c7)]) (fun j => ns.length - j.1) (0,g) (Nat.zero_le _) ⟨by simp only [List.take_zero,List.map_nil,List.append_nil];rfl,rfl,rfl,rfl,by simp only [List.take_zero,List.map_nil,List.append_nil];rfl,rfl,trivial⟩ ?_
 rintro ⟨j,gg⟩ st hjn
 have hjn : j ≤ ns.length := hjn
 repeat refine stq rfl ?_
 refine pw_cond rfl (fun h => ?_) (fun h => ?_)
 ·have hlt : j < ns.length := by have := of_decide_eq_true h;omega
  clear h
  obtain ⟨n,hx⟩ := get_lt hlt
  have hmn := hm n (List.mem_of_getElem? hx)
  have hi := itoa_ret n (by have := hmn.1;omega) (by have := hmn.2;omega)
  have htk : ws ++ (ns.take (j + 1)).map Lib.itoa = ws ++ (ns.take j).map Lib.itoa ++ [Lib.itoa n] := by rw [take_snoc hx,List.map_append,List.append_assoc];rfl
  have hlen : (ws ++ (ns.take j).map Lib.itoa).length = ws.length + j := by rw [List.length_append,List.length_map,List.length_take];omega
  generalize ws ++ (ns.take j).map Lib.itoa = S at *
  repeat refine stq rfl ?_
  refine qst rfl rfl (q_idxmF rfl rfl rfl rfl rfl (by omega) hx rfl) ?_
  repeat refine stq rfl ?_
  refine qst rfl rfl (q_cp rfl hi rfl rfl rfl) ?_
  repeat refine stq rfl ?_
  refine qst rfl rfl (q_slit rfl rfl rfl rfl rfl rfl rfl rfl rfl rfl (by repeat' constructor) rfl) ?_
  repeat refine stq rfl ?_
  refine ps_run (o_app 0 rfl rfl rfl rfl rfl rfl rfl rfl rfl rfl rfl (by repeat' constructor) (by intro row hr;first | (simp at hr;subst hr;rfl) | simp at hr) rfl rfl (by simp;omega) (by simp;omega) ?_)
  repeat refine stq rfl ?_
  refine ⟨(j + 1,gg + 1),hlt,by show ns.length - (j + 1) < ns.length - j;omega,?_,rfl,rfl,i64_next (by omega) (by omega),?_,rfl,trivial⟩
  ·show _ = PV.als 35 (gg + 1) 0 ((ws ++ (ns.take (j + 1)).map Lib.itoa).map eS).length
   rw [htk,List.map_append];rfl
  ·show _ = (gg + 1,some (Cont.mk 9 1 ((ws ++ (ns.take (j + 1)).map Lib.itoa).map eS) 0))
   rw [htk,List.map_append];rfl
 ·have hz : j = ns.length := by have := of_decide_eq_false h;omega
  subst hz
  rw [List.take_length] at *
  repeat refine stq rfl ?_
  refine qst rfl rfl (q_cp rfl hj rfl rfl rfl) ?_
  repeat refine stq rfl ?_
  exact fin _ _ (.inl rfl) rfl ⟨rfl,trivial⟩
end Go.Pv


set_option maxHeartbeats 2000000
namespace Go.Pv
attribute [local irreducible] PWP POps PQuiet PSem XThen XBlock RetPost InlPost
open Go.Proofs
section
variable {P : Program} {L : Lay} {s : St} {T T' : TypeId} {d : Nat} {x y : Operand} {ty : TypeId} {pos : String} {af : Array Edge} {g : Option (Nat × Bool)}
end
structure SSet where
 key : Str
 value : Str
 deriving DecidableEq,Inhabited
def eC (c : UInt8) : List PV := [.int .u8 c.toNat]
end Go.Pv


set_option maxHeartbeats 2000000
namespace Go.Pv
attribute [local irreducible] PWP POps PQuiet PSem XThen XBlock RetPost InlPost
open Go.Proofs
def stepC (a : Int) (c : UInt8) : Int := (31 * a + (c.toNat : Int) + 1) % 65521
def sumF (n : Int) (s : Str) : Int := s.foldl stepC n
theorem sumF_app (n : Int) (s t : Str) : sumF n (s ++ t) = sumF (sumF n s) t := List.foldl_append
theorem stepC_range (a : Int) (c : UInt8) : 0 ≤ stepC a c ∧ stepC a c < 65521 := by
 unfold stepC
 omega
theorem sumF_range : ∀ (s : Str) {n : Int},0 ≤ n → n < 65521 → 0 ≤ sumF n s ∧ sumF n s < 65521
 |[],_,h0,h1 => ⟨h0,h1⟩
 |c :: s,n,_,_ => sumF_range s (stepC_range n c).1 (stepC_range n c).2
theorem sumF_next {s : Str} {k : Nat} {c : UInt8} (h : s[k]? = some c) (n : Int) : sumF n (s.take (k + 1)) = stepC (sumF n (s.take k)) c := by
 rw [take_snoc h,sumF_app];rfl
theorem stepC_wrap {a : Int} (h0 : 0 ≤ a) (h1 : a < 65521) (c : UInt8) : (IntKind.wrap .i64 (IntKind.wrap .i64 (IntKind.wrap .i64 (31 * a) + IntKind.wrap .i64 (c.toNat : Int)) + 1)).tmod 65521 = stepC a c := by
 have hc : c.toNat < 256 := c.toNat_lt
 rw [wrap_i64 (n := (c.toNat : Int)) (by omega) (by omega),wrap_i64 (n := 31 * a) (by omega) (by omega),wrap_i64 (n := 31 * a + c.toNat) (by omega) (by omega),wrap_i64 (by omega) (by omega),Int.tmod_eq_emod_of_nonneg (by omega)]
 rfl
theorem checksum_ret (n : Int) (s : Str) (h0 : 0 ≤ n) (h1 : n < 65521) (hs : s.length ≤ 1000000) : Ret Tryz.prog .shared 127 [I n,.str s] (I (sumF n s)) := by
 have hll : ((s.map eC).length : Int) = s.length := by simp
 refine Ret.of_pwp layOk mixed Go.Proofs.Tryz.func127 rfl (by decide) rfl rfl ?_
 repeat refine stq rfl ?_
 refine qst rfl rfl (q_s2b rfl rfl rfl rfl rfl rfl) ?_
 repeat refine stq rfl ?_
 refine pw_loop (fun k => k ≤ s.length) (fun k => [(0,I (sumF n (s.take k))),(8,.fsl (s.map eC)),(9,I (s.map eC).length),(10,I k)]) (fun _ => []) (fun k => s.length - k) 0 (Nat.zero_le _) ⟨rfl,rfl,rfl,rfl,trivial⟩ ?_
 intro k st hk
 have hr := sumF_range (s.take k) h0 h1
 repeat refine stq rfl ?_
 refine pw_cond rfl (fun h => ?_) (fun h => ?_)
 ·have hlt : k < s.length := by have := of_decide_eq_true h;omega
  clear h
  obtain ⟨c,hx⟩ := get_lt hlt
  repeat refine stq rfl ?_
  refine qst rfl rfl (q_idxmF rfl rfl rfl rfl rfl (by omega) hx rfl) ?_
  repeat refine stq rfl ?_
  refine ps_v rfl (show ¬ (65521 : Int) = 0 by decide) ?_
  rw [stepC_wrap hr.1 hr.2 c,← sumF_next hx]
  repeat refine stq rfl ?_
  exact ⟨k + 1,by omega,by omega,rfl,rfl,rfl,i64_next (by omega) (by omega),trivial⟩
 ·have hz : k = s.length := by have := of_decide_eq_false h;omega
  subst hz
  repeat refine stq rfl ?_
  exact end1i rfl rfl (by rw [List.take_length])
theorem checked_ref (n : Int) (s : Str) (h0 : 0 ≤ n) (h1 : n < 65521) (hs : s.length ≤ 1000000) : Ret Tryz.prog .shared 77 [I n,.str s] (I (sumF n s)) := by
 refine Ret.of_pwp layOk mixed Go.Proofs.Tryz.func77 rfl (by decide) rfl rfl ?_
 repeat refine stq rfl ?_
 refine pw_loop (fun k => k ≤ s.length) (fun k => [(0,I (sumF n (s.take k))),(1,.str s),(5,I k)]) (fun _ => []) (fun k => s.length - k) 0 (Nat.zero_le _) ⟨rfl,rfl,rfl,trivial⟩ ?_
 intro k st hk
 have hr := sumF_range (s.take k) h0 h1
 repeat refine stq rfl ?_
 refine pw_cond rfl (fun h => ?_) (fun h => ?_)
 ·have hlt : k < s.length := by have := of_decide_eq_true h;omega
  clear h
  obtain ⟨c,hx⟩ := get_lt hlt
  have hci : s.getD ((k : Int).toNat) 0 = c := by rw [Int.toNat_natCast,List.getD_eq_getElem?_getD,hx];rfl
  repeat refine stq rfl ?_
  refine qst rfl rfl (QOp.v rfl (show 0 ≤ (k : Int) ∧ (k : Int) < (s.length : Nat) by omega)) ?_
  rw [hci]
  repeat refine stq rfl ?_
  refine ps_v rfl (show ¬ (65521 : Int) = 0 by decide) ?_
  rw [stepC_wrap hr.1 hr.2 c,← sumF_next hx]
  repeat refine stq rfl ?_
  exact ⟨k + 1,by omega,by omega,rfl,rfl,i64_next (by omega) (by omega),trivial⟩
 ·have hz : k = s.length := by have := of_decide_eq_false h;omega
  subst hz
  repeat refine stq rfl ?_
  exact end1i rfl rfl (by rw [List.take_length])
def lineT (n : Int) (t : Str) : Str := t ++ [32,35] ++ Lib.itoa (sumF n t) ++ [10]
set_option maxRecDepth 20000 in
theorem line_ret (p : SPost) (n : Int) (hc : checkE p = 0) (h0 : 0 ≤ n) (h1 : n < 65521) : Ret Tryz.prog .shared 76 [.agg (ePost p),I n] (.tup [.str (lineT n (textP p)),I (sumF n (textP p))]) := by
 have hw := written_ret p hc
 have hl := text_short hc
 have hs := checksum_ret n (textP p) h0 h1 (by omega)
 have hr := sumF_range (textP p) h0 h1
 have hi := itoa_ret (sumF n (textP p)) (by omega) (by omega)
 have hi2 : (Lib.itoa (sumF n (textP p))).length ≤ 20 := by have := itoa_short (v := sumF n (textP p)) (by omega) (by omega);omega
 rw [lineT]
 generalize textP p = t at *
 generalize sumF n t = m at *
 generalize Lib.itoa m = q at *
 refine Ret.of_pwp layOk mixed Go.Proofs.Tryz.func76 rfl (by decide) rfl rfl ?_
 repeat refine stq rfl ?_
 refine qst rfl rfl (q_cp rfl hw rfl rfl rfl) ?_
 repeat refine stq rfl ?_
 refine qst rfl rfl (q_cp rfl hs rfl rfl rfl) ?_
 repeat refine stx rfl ?_
 refine ps_v rfl ?_ ?_
 ·simp only [List.length_append,List.length_cons,List.length_nil];omega
 repeat refine stx rfl ?_
 refine qst rfl rfl (q_cp rfl hi rfl rfl rfl) ?_
 repeat refine stx rfl ?_
 refine ps_v rfl ?_ ?_
 ·simp only [List.length_append,List.length_cons,List.length_nil];omega
 repeat refine stx rfl ?_
 refine ps_v rfl ?_ ?_
 ·simp only [List.length_append,List.length_cons,List.length_nil];omega
 repeat refine stx rfl ?_
 exact end2 rfl rfl rfl rfl rfl trivial trivial rfl
end Go.Pv


namespace Go.Pv
open Go.RowKit
variable [Globs]
def bindP : List (Tmp × PV) → (Nat → PV) → Nat → PV
 |[],f => f
 |(p,v) :: l,f => bindP l fun r => bif Nat.beq r p then v else f r
theorem bind_spec {E : Env} : ∀ (ps : List Tmp) (cs : List PV) (vs : List Value) (f : Nat → PV) (tmps : Array Value),ps.length = cs.length → cs.length = vs.length → (∀ p ∈ ps,p < tmps.size) → (∀ t,Rep E (f t) (tmps.getD t undef)) →
  (∀ (i : Nat) (c : PV) (v : Value),cs[i]? = some c → vs[i]? = some v → Rep E c v) →
  ((ps.zip vs).foldl (fun t q => t.setIfInBounds q.1 q.2) tmps).size = tmps.size ∧ ∀ t,Rep E (bindP (ps.zip cs) f t) (((ps.zip vs).foldl (fun t q => t.setIfInBounds q.1 q.2) tmps).getD t undef)
 |[],[],[],f,tmps,_,_,_,hf,_ => ⟨rfl,hf⟩
 |p :: ps,c :: cs,v :: vs,f,tmps,h1,h2,hp,hf,hd => by
  have hp0 : p < tmps.size := hp p (.head _)
  have ih := bind_spec ps cs vs (fun r => bif Nat.beq r p then c else f r) (tmps.setIfInBounds p v) (by simpa using h1) (by simpa using h2) (fun q hq => by simpa using hp q (.tail _ hq)) (fun t => by
   by_cases ht : t = p
   ·subst ht
    have e1 : (tmps.setIfInBounds t v).getD t undef = v := by simp [hp0]
    rw [e1]
    simpa using hd 0 c v rfl rfl
   ·have e1 : (tmps.setIfInBounds p v).getD t undef = tmps.getD t undef := by simp [Array.getElem?_setIfInBounds_ne (Ne.symm ht)]
    rw [e1,nbeq_ne ht]
    exact hf t) (fun i c' v' e1 e2 => hd (i + 1) c' v' (by simpa using e1) (by simpa using e2))
  refine ⟨?_,fun t => ?_⟩
  ·rw [List.zip_cons_cons,List.foldl_cons,ih.1];simp
  ·rw [List.zip_cons_cons,List.zip_cons_cons,List.foldl_cons]
   exact ih.2 t
 |[],_ :: _,_,_,_,h,_,_,_,_ => by simp at h
 |[],[],_ :: _,_,_,_,h,_,_,_ => by simp at h
 |_ :: _,[],_,_,_,h,_,_,_,_ => by simp at h
 |_ :: _,_ :: _,[],_,_,_,h,_,_,_ => by simp at h
def rndC (ps : Array Tmp) (asg body : Code) (st : LoopState) (pend : Option Code) (regs : Nat → PV) : Cont := ⟨0,0,[[.lbl ps asg body st pend regs]],4⟩
def RoundPost (s : St) (kL g : Nat) (ps : Array Tmp) (asg body : Code) (regs : Nat → PV) (d : Nat) (K : St → Prop) : Exit → St → Prop
 |.normal,s' => s'.own kL = (g,some (rndC ps asg body .busy none regs)) ∧ K (({ reg := s.reg,own := (s'.setOwn kL g (some (rndC ps asg body .ready none regs))).own } : St).putR d (.bool true))
 |.exit id,s' => s'.own kL = (g,some (rndC ps asg body .busy none regs)) ∧ K (({ reg := s.reg,own := (s'.setOwn kL g (some (rndC ps asg body .done (some (.exit id)) regs))).own } : St).putR d (.bool false))
 |.ret,s' => s'.own kL = (g,some (rndC ps asg body .busy none regs)) ∧ K (({ reg := s.reg,own := (s'.setOwn kL g (some (rndC ps asg body .done (some .ret) regs))).own } : St).putR d (.bool false))
 |_,_ => False
def RangePost (s : St) (kL g : Nat) (ps : Array Tmp) (asg body : Code) (Q : Exit → St → Prop) : Exit → St → Prop
 |.normal,s' | .ret,s' => (s'.own kL = (g,some (rndC ps asg body .ready none s.reg)) ∧ Q .normal { reg := s.reg,own := (s'.setOwn kL (g + 1) none).own }) ∨
   (∃ id,s'.own kL = (g,some (rndC ps asg body .done (some (.exit id)) s.reg)) ∧ Q (.exit id) { reg := s.reg,own := (s'.setOwn kL (g + 1) none).own }) ∨
   (s'.own kL = (g,some (rndC ps asg body .done (some .ret) s.reg)) ∧ Q .ret { reg := s.reg,own := (s'.setOwn kL (g + 1) none).own })
 |_,_ => False
section
variable {P : Program} {L : Lay} {C : Ctx} {γ : Nat → Option Nat} {s : St} {a : Act} {w : World}
theorem Sim.yl_at (_h : Sim C γ s a w) {k g : Nat} {c : Cont} {v : Value} (hr : Rep (envOf C γ s w) (.yl k g) v) (ho : s.own k = (g,some c)) : ∃ b,γ k = some b ∧ v = .func (.yield b) #[] #[] := by
 cases hr with
 |d h => cases h
 |yl hg hl => exact (hl (by simp [envOf,ho]) ⟨γ k,c.ty,c.sz,c.rows.length⟩ (by simp [envOf,ho])).2
theorem Sim.turnLoop {s' : St} {a' : Act} {w3 : World} {C2 : Ctx} {γ' : Nat → Option Nat} (hs' : Sim C2 γ' s' a' w3) {kL g b : Nat} {ps : Array Tmp} {asg body : Code} {regs : Nat → PV} {st : LoopState} {pend : Option Code} (ho : s'.own kL = (g,some (rndC ps asg body st pend regs))) (hb : γ' kL = some b) :
  ∃ rec : Loop,w3.heap[b]? = some (.loop rec) ∧ rec.state = st ∧ rec.pending = pend ∧ ∀ (st2 : LoopState) (pend2 : Option Code),Sim C2 γ' (s'.setOwn kL g (some (rndC ps asg body st2 pend2 regs))) a' (w3.putObj b (.loop { rec with state := st2,pending := pend2 })) := by
 have hit := (hs'.sites kL _ (by rw [ho])).it b hb rfl (show (3:Nat) ≤ 4 by decide)
 obtain ⟨rec,regs',h1,h2,h3',h3,h4,h5⟩ : LoopAt (envOf C2 γ' s' w3) b (rndC ps asg body st pend regs).rows := hit
 have h1 : w3.heap[b]? = some (.loop rec) := h1
 simp only [rndC,List.cons.injEq,PV.lbl.injEq,and_true] at h2
 obtain ⟨e1,e2,e3,e4,e5,e6⟩ := h2
 subst e6
 refine ⟨rec,h1,e4.symm,e5.symm,fun st2 pend2 => ?_⟩
 obtain ⟨hp,hnew⟩ := put_set (o' := .loop { rec with state := st2,pending := pend2 }) h1
 have hnc : ∀ cur T f,w3.heap[b]? ≠ some (.cells cur T f) := fun cur T f e => by rw [h1] at e;cases e
 have hle := put_le (c' := rndC ps asg body st2 pend2 regs) hs' ho hb hnc hp rfl rfl (Nat.le_refl _)
 refine put_sim hs' ho hb hnc hp rfl rfl (Nat.le_refl _) ⟨(fun e => by cases e),(fun b' _ _ hk => by simp [rndC] at hk),fun b' hb' _ _ => ?_,(fun b' _ hz => by simp [rndC] at hz)⟩
 cases hb'
 show LoopAt _ _ _
 exact ⟨{ rec with state := st2,pending := pend2 },regs,hnew,by simp [rndC,← e1,← e2,← e3],h3',h3,h4,fun t => (h5 t).mono hle⟩
theorem sm_yield {o : Oper} {args : Array Operand} {tys : Array TypeId} {tf d kL g : Nat} {ps : Array Tmp} {asg body : Code} {regs : Nat → PV} {K : St → Prop} (ho : o.op = .call ⟨.value (.tmp tf),args,tys⟩) (hd : o.dst = some d) (hy : s.reg tf = .yl kL g)
  (hown : s.own kL = (g,some (rndC ps asg body .ready none regs))) (hps : args.size = ps.size)
  (h : PWP P L asg (XThen (fun s2 => s2.own kL = (g,some (rndC ps asg body .ready none regs)) ∧ PWP P L body (RoundPost s kL g ps asg body regs d K) { reg := s2.reg,own := (s2.setOwn kL g (some (rndC ps asg body .busy none regs))).own }) (fun _ _ => False)) { reg := bindP (ps.toList.zip (args.toList.map s.ev)) regs,own := s.own }) : SmI P L s o K := by
 intro ro n C a w Q hG ⟨γ,hs⟩ hN hQ
 have hyr := hs.ev (.tmp tf)
 rw [show s.ev (.tmp tf) = .yl kL g from hy] at hyr
 obtain ⟨b,hb,hv⟩ := hs.yl_at hyr hown
 have hit := (hs.sites kL _ (by rw [hown])).it b hb rfl (show (3:Nat) ≤ 4 by decide)
 obtain ⟨rec,regs',h1,h2,h3',h3,h4,h5⟩ : LoopAt (envOf C γ s w) b (rndC ps asg body .ready none regs).rows := hit
 have h1 : w.heap[b]? = some (.loop rec) := h1
 simp only [rndC,List.cons.injEq,PV.lbl.injEq,and_true] at h2
 obtain ⟨e1,e2,e3,e4,e5,e6⟩ := h2
 subst e6
 refine ⟨fun _ _ => trivial,?_⟩
 have hexec : (o.semAt (Fr ro).round a.eval).run P w = .ok (.round b rec.fn ((rec.params.zip (args.map a.eval)).foldl (fun tmps (t,a) => tmps.setIfInBounds t a) rec.tmps) rec.assign rec.body) w := by
  rw [Oper.semAt_eq _ _ _ (fun c e => by rw [ho] at e;cases e)]
  simp only [execOp,ho,resolve,hv,Deferred.ofValue,Sem.run_bind,Sem.run_pure,Result.andThen_ok,invoke]
  rw [show (#[] ++ args.map a.eval : Array Value) = args.map a.eval by simp]
  exact run_yield h1 (by rw [← e1];simpa using hps)
 rw [hexec,Oper.uponIn_round]
 refine ⟨fun e => by simp [Fr,Fence.wide] at e,?_⟩
 refine roundIn_of_wpIn trivial ?_
 rw [← e2,← e3]
 rw [← e2] at h3'
 rw [← e3] at h3
 let C2 : Ctx := ⟨C.B,C.X,C.w0,rec.tmps.size,fun c v => C.keep c v ∨ ∃ t,c = s.reg t ∧ v = a.tmps.getD t undef,[]⟩
 have hG2 : Good P L C2 := ⟨hG.lay,hG.x,hG.mixed,hG.glob⟩
 have hfold : (rec.params.zip (args.map a.eval)).foldl (fun tmps (t,a) => tmps.setIfInBounds t a) rec.tmps = (ps.toList.zip (args.toList.map a.eval)).foldl (fun t q => t.setIfInBounds q.1 q.2) rec.tmps := by
  rw [← e1,← Array.foldl_toList,Array.toList_zip,Array.toList_map]
 obtain ⟨b1,b2⟩ := bind_spec (E := envOf C γ s w) ps.toList (args.toList.map s.ev) (args.toList.map a.eval) regs rec.tmps (by simpa using hps.symm) (by simp)
  (fun p hp => by rw [e1] at hp;simpa using List.all_eq_true.1 h4 p hp) (fun t => h5 t) (fun i c v q1 q2 => by
   rw [List.getElem?_map] at q1 q2
   cases hx : args.toList[i]? with
   |none => rw [hx] at q1;simp at q1
   |some x => rw [hx] at q1 q2;simp at q1 q2;subst q1;subst q2;exact hs.ev x)
 rw [hfold]
 have hsim2 : SimE C2 { reg := bindP (ps.toList.zip (args.toList.map s.ev)) regs,own := s.own } { tmps := (ps.toList.zip (args.toList.map a.eval)).foldl (fun t q => t.setIfInBounds q.1 q.2) rec.tmps,defers := [] } w := by
  refine ⟨γ,rfl,b1,b2,hs.sites,hs.inj,hs.base,hs.below,hs.top,?_⟩
  rintro c v (hk | ⟨t,rfl,rfl⟩)
  ·exact hs.kept c v hk
  ·exact hs.regs t
 rw [fr_round]
 refine wpIn_mono (PWP.soundX (X := fun A B => A = B) (fun _ => rfl) (fun h k => h.trans k) (fun h => by subst h;exact .refl _) (r := false) (fun h => by cases h) asg _ C2 _ _ _ hG2 h3' (fun _ hq => hq) hsim2 h) ?_
 rintro e aA wA ⟨C',sA,rfl,⟨γA,hsA⟩,hq⟩
 have he : e = .normal := by
  cases e
  case normal => rfl
  all_goals exact absurd hq id
 subst he
 obtain ⟨hownA,hbodyA⟩ := hq
 show ∃ w₂,_
 have hkyA := hsA.kept (.yl kL g) (.func (.yield b) #[] #[]) (.inr ⟨tf,hy.symm,hv.symm⟩)
 obtain ⟨bA,hbA,hvA⟩ := hsA.yl_at hkyA hownA
 have hbb : b = bA := by injection hvA with q;injection q with q
 subst hbb
 obtain ⟨rec2,r1,r2,r3,r4⟩ := hsA.turnLoop hownA hbA
 have hs1 := r4 .busy none
 have hw2 : wA.putObj b (.loop { rec2 with state := .busy,pending := none }) = wA.putObj b (.loop { rec2 with state := .busy }) := by
  have : ({ rec2 with state := .busy,pending := none } : Loop) = { rec2 with state := .busy } := by rw [← r3]
  rw [this]
 rw [hw2] at hs1
 refine ⟨_,run_beginRound r1 r2,?_⟩
 have hsimB : SimE C2 { reg := sA.reg,own := (sA.setOwn kL g (some (rndC ps asg body .busy none regs))).own } aA (wA.putObj b (.loop { rec2 with state := .busy })) := ⟨γA,hs1⟩
 refine wpIn_mono (PWP.soundX (X := fun A B => A = B) (fun _ => rfl) (fun h k => h.trans k) (fun h => by subst h;exact .refl _) (r := false) (fun h => by cases h) body _ C2 _ _ _ hG2 h3 (fun _ hq => hq) hsimB hbodyA) ?_
 have fin : ∀ {s' : St} {a' : Act} {w3 : World} (jump : Option Code) (st : LoopState),st = (if jump.isNone then .ready else .done) → SimE C2 s' a' w3 → s'.own kL = (g,some (rndC ps asg body .busy none regs)) →
   K (({ reg := s.reg,own := (s'.setOwn kL g (some (rndC ps asg body st jump regs))).own } : St).putR d (.bool jump.isNone)) →
   ∃ v w4,(Instr.endRound b jump).run P w3 = .ok v w4 ∧ ∃ s'',SimE C s'' (a.put o.dst v) w4 ∧ K s'' := by
  rintro s' a' w3 jump st rfl ⟨γ',hs'⟩ hown' hk
  have hky := hs'.kept (.yl kL g) (.func (.yield b) #[] #[]) (.inr ⟨tf,hy.symm,hv.symm⟩)
  obtain ⟨b',hb',hvb⟩ := hs'.yl_at hky hown'
  have hbb : b' = b := by injection hvb with q;injection q with q;exact q.symm
  subst hbb
  obtain ⟨rec3,q1,q2,q3,q4⟩ := hs'.turnLoop hown' hb'
  have hs4 := q4 (if jump.isNone then .ready else .done) jump
  refine ⟨_,_,run_endRound jump q1,_,⟨γ',?_⟩,hk⟩
  have hback : Sim C γ' { reg := s.reg,own := (s'.setOwn kL g (some (rndC ps asg body (if jump.isNone then .ready else .done) jump regs))).own } a (w3.putObj b' (.loop { rec3 with state := if jump.isNone then .ready else .done,pending := jump })) :=
   ⟨hs.defers,hs.size,fun r => hs4.kept _ _ (.inr ⟨r,rfl,rfl⟩),hs4.sites,hs4.inj,hs4.base,hs4.below,hs4.top,fun c v hk => hs4.kept c v (.inl hk)⟩
  rw [hd]
  rw [hd] at hN
  exact hback.put (d := some d) hN (.d (.bool _))
 rintro e a' w3 ⟨C',s',rfl,h',hq⟩
 cases e
 case normal => exact fin none .ready rfl h' hq.1 hq.2
 case ret => exact fin (some .ret) .done rfl h' hq.1 hq.2
 case exit id => exact fin (some (.exit id)) .done rfl h' hq.1 hq.2
 all_goals exact hq.elim
theorem pw_range {Q : Exit → St → Prop} {g : Operand} {ps : Array Tmp} {assign body : Code} (h : RangeS P L g ps assign body Q s) : PWP P L (.rangeFunc g ps assign body) Q s := Gh.of h
theorem range_inl {Q : Exit → St → Prop} {g : Operand} {gf : FuncId} {caps : List PV} {fn : Func} {bodyI : Code} {ps : Array Tmp} {asg body : Code} (kL : Nat) {gn : Nat} {oc : Option Cont} (hg : s.ev g = .clo gf caps) (hf : P.funcs[gf]? = some fn) (hb : fn.body = some bodyI)
  (hn : (fn.name == "runtime.NumGoroutine") = false) (hlen : Nat.ble (1 + caps.length) fn.ntmps = true) (hc : codeOk fn.ntmps bodyI = true) (hres : fn.results = #[]) (hown : s.own kL = (gn, oc))
  (h : PWP P L bodyI (RangePost s kL (gn + 1) ps asg body Q) { reg := fun t => ((.yl kL (gn + 1)) :: caps).getD t (.raw undef),own := (s.setOwn kL (gn + 1) (some (rndC ps asg body .ready none s.reg))).own }) : RangeS P L g ps asg body Q s := by
 intro n C a w hG ⟨γ,hs⟩ hcode hQ
 simp only [codeB,Bool.true_and,Bool.and_eq_true] at hcode
 obtain ⟨⟨hpsN,hasg⟩,hbody⟩ := hcode
 refine wpIn_rangeFunc fun fnid _ => ?_
 have hge := hs.ev g
 rw [hg] at hge
 obtain ⟨vs,hv,hl,hd⟩ := hge.clo_inv
 have hcal : callable P gf := ⟨fn,hf,hn,by simp [hb]⟩
 obtain ⟨rec,hrec⟩ : ∃ rec : Loop,rec = { state := .ready,pending := none,fn := fnid,tmps := a.tmps,params := ps,assign := asg,body := body,defers := w.heap.size } := ⟨_,rfl⟩
 refine ⟨w.heap.size + 1,[mark w.heap.size],(w.alloc (.deferred (some []))).alloc (.loop rec),{ target := .fn (.func gf) vs.toArray,args := #[.func (.yield (w.heap.size + 1)) #[] #[]] },(w.alloc (.deferred (some []))).alloc (.loop rec),gf,
  #[Value.func (.yield (w.heap.size + 1)) #[] #[]] ++ vs.toArray,(w.alloc (.deferred (some []))).alloc (.loop rec),by rw [hrec];exact run_enterLoop_outer _ _ _ _ _,?_,fun _ _ => trivial,?_,fun e => by simp [Fr,Fence.wide] at e,?_⟩
 ·simp only [resolve,hv]
  simp [go_sem]
 ·simp only [invoke]
  exact run_callFunc hcal _
 refine callsIn_of_wp hf hb trivial ?_
 have hbel : Below w.heap.size w (w.alloc (.deferred (some []))) := (Below.refl _ w).alloc (Nat.le_refl _) _
 have hD := hs.ext hbel
 have hsz : (w.alloc (.deferred (some []))).heap.size = w.heap.size + 1 := by simp
 have hT : Turn C γ s (w.alloc (.deferred (some []))) ((w.alloc (.deferred (some []))).alloc (.loop rec)) kL (some (w.alloc (.deferred (some []))).heap.size) := Turn.alloc _ kL
 have hle := hT.le hD (rndC ps asg body .ready none s.reg)
 have hfin : s.fin kL (rndC ps asg body .ready none s.reg) = s.setOwn kL (gn + 1) (some (rndC ps asg body .ready none s.reg)) := by rw [St.fin,hown]
 have hs1 := hT.sim (c := rndC ps asg body .ready none s.reg) hD ⟨(fun e => by cases e),(fun b' _ _ hk => by simp [rndC] at hk),fun b' hb' _ _ => by
  cases hb'
  show LoopAt _ _ _
  refine ⟨rec,s.reg,heap_alloc_at _ _,by rw [hrec];rfl,by rw [hrec];simpa [hs.size] using hasg,by rw [hrec];simpa [hs.size] using hbody,by rw [hrec];simpa [hs.size] using hpsN,fun t => ?_⟩
  rw [show rec.tmps = a.tmps by rw [hrec]];exact (hD.regs t).mono hle,(fun b' _ hz => by simp [rndC] at hz)⟩
 rw [hfin,hsz] at hs1
 rw [hfin,hsz] at hle
 have hDobj : ((w.alloc (.deferred (some []))).alloc (.loop rec)).heap[w.heap.size]? = some (.deferred (some [])) := by
  rw [Below.heap_alloc _ _ _ (by simp)]
  exact heap_alloc_at w _
 have hDok : okOf C (upg γ kL (some (w.heap.size + 1))) (s.setOwn kL (gn + 1) (some (rndC ps asg body .ready none s.reg))) ((w.alloc (.deferred (some []))).alloc (.loop rec)) w.heap.size := by
  refine ⟨by simp;omega,fun hx => ?_,fun k c hk hb' => ?_⟩
  ·have := hG.x _ hx;have := hs.top;omega
  ·by_cases hkk : k = kL
   ·subst hkk
    rw [upg_same] at hb'
    injection hb' with q;omega
   ·rw [setOwn_ne hkk] at hk
    rw [upg_ne hkk] at hb'
    have := (hs.base k c _ hk hb').2;omega
 let C1 : Ctx := ⟨C.B,C.X,C.w0,fn.ntmps,fun c v => C.keep c v ∨ (∃ t,c = s.reg t ∧ v = a.tmps.getD t undef) ∨ (c = .dfd ∧ v = .pointer (some ⟨w.heap.size,0,none⟩)) ∨ (c = .yl kL (gn + 1) ∧ v = .func (.yield (w.heap.size + 1)) #[] #[]),[]⟩
 have hG1 : Good P L C1 := ⟨hG.lay,hG.x,hG.mixed,hG.glob⟩
 have hyl : Rep (envOf C (upg γ kL (some (w.heap.size + 1))) (s.setOwn kL (gn + 1) (some (rndC ps asg body .ready none s.reg))) ((w.alloc (.deferred (some []))).alloc (.loop rec))) (.yl kL (gn + 1)) (.func (.yield (w.heap.size + 1)) #[] #[]) := by
  refine .yl (by simp [envOf,setOwn_same]) fun _ l hl => ?_
  simp only [envOf,setOwn_same,upg_same,Option.map_some,Option.some.injEq] at hl
  subst hl
  exact ⟨rfl,_,rfl,rfl⟩
 have hlen' : 1 + vs.length ≤ fn.ntmps := by rw [← hl];simpa using hlen
 have hargs : ∀ t,Rep (envOf C (upg γ kL (some (w.heap.size + 1))) (s.setOwn kL (gn + 1) (some (rndC ps asg body .ready none s.reg))) ((w.alloc (.deferred (some []))).alloc (.loop rec))) (((.yl kL (gn + 1)) :: caps).getD t (.raw undef))
   ((#[Value.func (.yield (w.heap.size + 1)) #[] #[]] ++ vs.toArray ++ Array.replicate (fn.ntmps - (#[Value.func (.yield (w.heap.size + 1)) #[] #[]] ++ vs.toArray).size) undef).getD t undef) := by
  intro t
  cases t with
  |zero =>
   have e2 : (#[Value.func (.yield (w.heap.size + 1)) #[] #[]] ++ vs.toArray ++ Array.replicate (fn.ntmps - (#[Value.func (.yield (w.heap.size + 1)) #[] #[]] ++ vs.toArray).size) undef).getD 0 undef = Value.func (.yield (w.heap.size + 1)) #[] #[] := by
    simp [Array.getElem?_append]
   rw [e2];exact hyl
  |succ t =>
   rcases Nat.lt_or_ge t vs.length with hlt | hge
   ·have hlt' : t < caps.length := by omega
    have e1 : ((PV.yl kL (gn + 1)) :: caps).getD (t + 1) (.raw undef) = caps[t] := by simp [hlt']
    have e2 : (#[Value.func (.yield (w.heap.size + 1)) #[] #[]] ++ vs.toArray ++ Array.replicate (fn.ntmps - (#[Value.func (.yield (w.heap.size + 1)) #[] #[]] ++ vs.toArray).size) undef).getD (t + 1) undef = vs[t] := by
     rw [Array.getD_eq_getD_getElem?,Array.getElem?_append_left (by simp;omega),Array.getElem?_append_right (by simp)]
     simp [hlt]
    rw [e1,e2]
    exact (hd t caps[t] vs[t] (List.getElem?_eq_getElem hlt') (List.getElem?_eq_getElem hlt)).mono ((envLe_ext hbel hs.base).trans' hle)
   ·have e1 : ((PV.yl kL (gn + 1)) :: caps).getD (t + 1) (.raw undef) = .raw undef := by simp [List.getElem?_eq_none (by omega : caps.length ≤ t)]
    have e2 : (#[Value.func (.yield (w.heap.size + 1)) #[] #[]] ++ vs.toArray ++ Array.replicate (fn.ntmps - (#[Value.func (.yield (w.heap.size + 1)) #[] #[]] ++ vs.toArray).size) undef).getD (t + 1) undef = undef := by
     rw [Array.getD_eq_getD_getElem?,Array.getElem?_append_right (by simp;omega)]
     rcases Nat.lt_or_ge (t + 1 - (#[Value.func (.yield (w.heap.size + 1)) #[] #[]] ++ vs.toArray).size) (fn.ntmps - (#[Value.func (.yield (w.heap.size + 1)) #[] #[]] ++ vs.toArray).size) with h1 | h1
     ·rw [Array.getElem?_replicate,if_pos h1];rfl
     ·rw [Array.getElem?_eq_none (by simpa using h1)];rfl
    rw [e1,e2]
    exact .d (.raw _)
 have hsim : SimE C1 { reg := fun t => ((.yl kL (gn + 1)) :: caps).getD t (.raw undef),own := (s.setOwn kL (gn + 1) (some (rndC ps asg body .ready none s.reg))).own }
   { tmps := #[Value.func (.yield (w.heap.size + 1)) #[] #[]] ++ vs.toArray ++ Array.replicate (fn.ntmps - (#[Value.func (.yield (w.heap.size + 1)) #[] #[]] ++ vs.toArray).size) undef,defers := [] } ((w.alloc (.deferred (some []))).alloc (.loop rec)) := by
  refine ⟨upg γ kL (some (w.heap.size + 1)),rfl,by simp [C1];omega,hargs,hs1.sites,hs1.inj,hs1.base,hs1.below,hs1.top,?_⟩
  rintro c v (hk | ⟨t,rfl,rfl⟩ | ⟨rfl,rfl⟩ | ⟨rfl,rfl⟩)
  ·exact hs1.kept c v hk
  ·exact hs1.regs t
  ·exact .dfd hDok hDobj
  ·exact hyl
 refine wpIn_mono (PWP.soundX (X := fun A B => A = B) (fun _ => rfl) (fun h k => h.trans k) (fun h => by subst h;exact .refl _) (r := false) (fun h => by cases h) bodyI _ C1 _ _ _ hG1 hc (fun _ hq => hq) hsim h) ?_
 have fin : ∀ {s' : St} {a' : Act} {w3 : World} (pend : Option Code) (st : LoopState),st ≠ .busy → SimE C1 s' a' w3 → s'.own kL = (gn + 1,some (rndC ps asg body st pend s.reg)) →
   ∃ w4,(Instr.endLoop (w.heap.size + 1)).run P w3 = .ok pend w4 ∧ ∃ C4,Ext C C4 ∧ SimE C4 { reg := s.reg,own := (s'.setOwn kL (gn + 1 + 1) none).own } { a with defers := [mark w.heap.size] ++ a.defers } w4 := by
  rintro s' a' w3 pend st hst ⟨γ',hs'⟩ hown'
  have hky := hs'.kept (.yl kL (gn + 1)) (.func (.yield (w.heap.size + 1)) #[] #[]) (.inr (.inr (.inr ⟨rfl,rfl⟩)))
  obtain ⟨b',hb',hvb⟩ := hs'.yl_at hky hown'
  have hbb : b' = w.heap.size + 1 := by injection hvb with q;injection q with q;exact q.symm
  subst hbb
  obtain ⟨rec3,q1,q2,q3,q4⟩ := hs'.turnLoop hown' hb'
  have hs4 := q4 .exhausted pend
  have hw4 : w3.putObj (w.heap.size + 1) (.loop { rec3 with state := .exhausted,pending := pend }) = w3.putObj (w.heap.size + 1) (.loop { rec3 with state := .exhausted }) := by
   have : ({ rec3 with state := .exhausted,pending := pend } : Loop) = { rec3 with state := .exhausted } := by rw [← q3]
   rw [this]
  rw [hw4] at hs4
  refine ⟨_,by rw [← q3];exact run_endLoop q1 (by rw [q2];exact hst),?_⟩
  obtain ⟨hs5,_,_⟩ := hs4.drop hG1.x (setOwn_same s' kL (gn + 1) _)
  have hoo : ((s'.setOwn kL (gn + 1) (some (rndC ps asg body .exhausted pend s.reg))).setOwn kL (gn + 1 + 1) none).own = (s'.setOwn kL (gn + 1 + 1) none).own := by
   funext r
   by_cases hr : r = kL
   ·subst hr;rw [setOwn_same,setOwn_same]
   ·rw [setOwn_ne hr,setOwn_ne hr,setOwn_ne hr]
  have key : ∀ ow,ow = (s'.setOwn kL (gn + 1 + 1) none).own → Sim C1 γ' { reg := s'.reg,own := ow } a' (w3.putObj (w.heap.size + 1) (.loop { rec3 with state := .exhausted })) →
    ∃ C4,Ext C C4 ∧ SimE C4 { reg := s.reg,own := (s'.setOwn kL (gn + 1 + 1) none).own } { a with defers := [mark w.heap.size] ++ a.defers } (w3.putObj (w.heap.size + 1) (.loop { rec3 with state := .exhausted })) := by
   rintro ow rfl hs6
   refine ⟨⟨C.B,C.X,C.w0,C.N,fun c v => C.keep c v ∨ (c = .dfd ∧ v = .pointer (some ⟨w.heap.size,0,none⟩)),w.heap.size :: C.dfs⟩,⟨rfl,rfl,rfl,rfl,fun c v hk => .inl hk,fun hdk => ⟨?_,?_⟩⟩,γ',?_,hs.size,fun r => hs6.kept _ _ (.inr (.inl ⟨r,rfl,rfl⟩)),hs6.sites,hs6.inj,hs6.base,hs6.below,hs6.top,?_⟩
   ·rw [List.nodup_cons]
    refine ⟨fun hm => ?_,hdk.1⟩
    have := hs.kept _ _ (hdk.2 _ hm).2
    cases this with
    |d hd => cases hd
    |dfd h1 _ => exact absurd h1.1 (Nat.lt_irrefl _)
   ·intro D hDm
    rcases List.mem_cons.1 hDm with rfl | hDm
    ·exact ⟨hs.top,.inr ⟨rfl,rfl⟩⟩
    ·exact ⟨(hdk.2 D hDm).1,.inl (hdk.2 D hDm).2⟩
   ·show [mark w.heap.size] ++ a.defers = _
    rw [hs.defers];rfl
   ·rintro c v (hk | ⟨rfl,rfl⟩)
    ·exact hs6.kept c v (.inl hk)
    ·exact hs6.kept _ _ (.inr (.inr (.inl ⟨rfl,rfl⟩)))
  exact key _ hoo hs5
 have ends : ∀ {s' : St} {a' : Act} {w3 : World},SimE C1 s' a' w3 → RangePost s kL (gn + 1) ps asg body Q .ret s' → a'.defers = [] ∧ ∃ v,(results fn a'.tmps).run P w3 = .ok v w3 ∧
   rangePost (Fr none) n P (w.heap.size + 1) (UpX Ext C Q) { a with defers := [mark w.heap.size] ++ a.defers } (.returned v) w3 := by
  intro s' a' w3 h' hq
  refine ⟨by obtain ⟨_,h'⟩ := h';exact h'.defers,.tuple #[],by simp [results,hres],?_⟩
  rcases hq with ⟨ho,hq⟩ | ⟨id,ho,hq⟩ | ⟨ho,hq⟩
  ·obtain ⟨w4,e1,C4,e2,e3⟩ := fin none .ready (by simp) h' ho
   exact ⟨none,w4,e1,C4,_,e2,e3,hq⟩
  ·obtain ⟨w4,e1,C4,e2,e3⟩ := fin (some (.exit id)) .done (by simp) h' ho
   exact ⟨some (.exit id),w4,e1,wpIn_exit ⟨C4,_,e2,e3,hq⟩⟩
  ·obtain ⟨w4,e1,C4,e2,e3⟩ := fin (some .ret) .done (by simp) h' ho
   exact ⟨some .ret,w4,e1,wpIn_ret ⟨C4,_,e2,e3,hq⟩⟩
 rintro e a' w3 ⟨C',s',rfl,h',hq⟩
 cases e
 case normal => exact ends h' hq
 case ret => exact ends h' hq
 all_goals exact hq.elim
end
end Go.Pv


set_option linter.unusedVariables false
namespace Go.Pv
open Go.RowKit Go.Proofs Go.Shelf
def WStr (P : Program) (f : FuncId) (T e : TypeId) : Prop :=
 ∀ (b : Nat) (p v : Value) (blk : Option Nat) (n : Nat) (olds : List Value) (s : ByteArray) (w : World),w.heap[b]? = some (.cells #[p,v] T (0,0)) → (p = .pointer none ∨ p = .pointer (some ⟨b,0,none⟩)) → Whole w e 1 blk v n olds →
  n + s.size ≤ 140737488355328 → Calls P f #[.pointer (some ⟨b,0,none⟩),.string s] w fun x w' => x = .returned (.tuple #[.int .i64 s.size,.nilIface]) ∧
   ∃ v' blk',w'.heap[b]? = some (.cells #[.pointer (some ⟨b,0,none⟩),v'] T (0,0)) ∧ Whole w' e 1 blk' v' (n + s.size) (olds ++ Lib.strCells s) ∧ w'.os = w.os ∧ w'.tape = w.tape ∧ w'.output = w.output ∧ w.heap.size ≤ w'.heap.size ∧
    (∀ j,j < w.heap.size → j ≠ b → w'.heap[j]? = w.heap[j]? ∨ blk = some j) ∧ (∀ j,blk' = some j → j < w'.heap.size ∧ (w.heap.size ≤ j ∨ blk = some j))
def SStr (P : Program) (f : FuncId) (T e : TypeId) : Prop :=
 ∀ (b : Nat) (p v : Value) (blk : Option Nat) (l : List UInt8) (w : World),w.heap[b]? = some (.cells #[p,v] T (0,0)) → Whole w e 1 blk v l.length (Lib.byteCells l) →
  Calls P f #[.pointer (some ⟨b,0,none⟩)] w fun x w' => x = .returned (.string ⟨l.toArray⟩) ∧ w'.os = w.os ∧ w'.tape = w.tape ∧ w'.output = w.output ∧ w.heap.size ≤ w'.heap.size ∧
    (∀ j,j < w.heap.size → w'.heap[j]? = w.heap[j]? ∨ blk = some j)
theorem append_str {P : Program} {w : World} (t u ty e : TypeId) (i : TypeInfo) (ht : P.underlying t = some (.slice e)) (hu : P.underlying u = some .string) (hi : P.info? e = some i) (hz : i.zero = some (.int .u8 0)) (hsize : i.size = 1) (hby : i.bytes = 1)
  (blk : Option Nat) (v : Value) (n : Nat) (olds : List Value) (hv : Whole w e 1 blk v n olds) (s : ByteArray) (hbytes : n + s.size ≤ 140737488355328) :
  ∃ v' w' blk',(Builtin.append_ #[t,u] ty #[v,.string s]).run P w = .ok v' w' ∧ Whole w' e 1 blk' v' (n + s.size) (olds ++ Lib.strCells s) ∧ w'.os = w.os ∧ w'.tape = w.tape ∧ w'.output = w.output ∧ w.heap.size ≤ w'.heap.size ∧
   (∀ b,b < w.heap.size → w'.heap[b]? = w.heap[b]? ∨ blk = some b) ∧ (∀ b,blk' = some b → b < w'.heap.size ∧ (w.heap.size ≤ b ∨ blk = some b)) := by
 have h63 : n + s.size ≤ maxLen := by unfold maxLen;omega
 obtain ⟨hlo,hv⟩ := hv
 have hxl : olds.length = n := by simpa using hlo
 have hlen : (olds ++ Lib.strCells s).length = (n + s.size) * 1 := by rw [List.length_append,hxl,Lib.strCells_length,Nat.mul_one]
 rcases hv with ⟨rfl,rfl,rfl⟩ | ⟨g,cap,cur,rfl,rfl,hg,hnc,hcm,hcs,htk⟩
 ·obtain ⟨v',w',h1,h2,h3,h4⟩ := Lib.run_append_own_string (P := P) (w := w) w.heap.size t u ty e i ht hu hi hz hsize hby (.slice none 0 0) 0 olds ⟨hlo,.inl ⟨rfl,rfl⟩⟩ s h63 hbytes (Nat.le_refl _)
  refine ⟨v',w',v'.ownBlock,h1,⟨h2.1,?_⟩,h3.os,h3.tape,h3.output,h3.size,fun b hb => .inl (h3.block b hb (by simp [Value.ownBlock])),fun b hb => ?_⟩
  ·rcases h2.2 with ⟨e1,e2⟩ | ⟨g,cap,cur,e1,e2,e3⟩
   ·exact .inl ⟨by rw [e1];rfl,e1,e2⟩
   ·exact .inr ⟨g,cap,cur,by rw [e1];rfl,e1,e3⟩
  ·rcases h2.2 with ⟨e1,e2⟩ | ⟨g,cap,cur,e1,e2,e3,_⟩
   ·rw [e1] at hb;simp [Value.ownBlock] at hb
   ·rw [e1] at hb
    simp [Value.ownBlock] at hb
    subst hb
    exact ⟨(Array.getElem?_eq_some_iff.1 e3).1,.inl e2⟩
 ·have ht' : cur.toList.take n = olds := by simpa using htk
  have hcs' : cur.size = cap := by simpa using hcs
  by_cases hroom : n + s.size ≤ cap
  ·have hr := Lib.run_append_room_string (P := P) (w := w) t u ty e i ht hu hi hsize g n cap cur hg s hroom (by omega)
   refine ⟨_,_,some g,hr,⟨hlen,.inr ⟨g,cap,_,rfl,rfl,setRow_heap w g cur _ e _ hg,hroom,hcm,?_,?_⟩⟩,rfl,rfl,rfl,by simp,fun b hb => ?_,fun b hb => ?_⟩
   ·simp only [List.size_toArray,List.length_append,List.length_take,List.length_drop,Array.length_toList,Lib.strCells_length]
    omega
   ·rw [ht',← hlen]
    exact List.take_left
   ·by_cases e1 : b = g
    ·exact .inr (by rw [e1])
    ·exact .inl (setRow_other w g b _ e1)
   ·simp at hb;subst hb
    exact ⟨by simpa using (Array.getElem?_eq_some_iff.1 hg).1,.inr rfl⟩
  ·have holds : ∀ j u,olds[j]? = some u → w.cell? ((⟨g,0,none⟩ : Addr).add j) = some u := fun j u hu => by
    rw [Addr.add_mk,Nat.zero_add,cell_of_cells hg]
    rw [← ht',List.getElem?_take] at hu
    split at hu
    ·simpa using hu
    ·cases hu
   have hr := Lib.run_append_grow_string (P := P) (w := w) t u ty e i (.int .u8 0) ht hu hi hz ⟨g,0,none⟩ n cap olds (by rw [hsize];simpa using hxl) holds s (by omega) (by unfold maxLen at h63;omega) (by rw [hby];exact growslice_fits (by omega) (by omega))
   have hge := grownCap_ge w (n + s.size) cap e
   have hcm := grownCap_le_maxLen w (n + s.size) cap e h63
   refine ⟨_,_,some w.heap.size,hr,⟨hlen,.inr ⟨w.heap.size,_,_,rfl,rfl,heap_alloc_at w.drew _,hge,hcm,?_,?_⟩⟩,rfl,rfl,rfl,by simp,fun b hb => .inl (Below.heap_alloc w.drew _ b hb),fun b hb => ?_⟩
   ·have hz1 : (Value.int IntKind.u8 0).cells.size = 1 := rfl
    simp only [Array.size_append,List.size_toArray,size_zeroCells,hz1,hxl,Lib.strCells_length]
    omega
   ·simp only [Array.toList_append,List.append_assoc]
    rw [← List.append_assoc,← hlen]
    exact List.take_left
   ·simp at hb;subst hb
    exact ⟨by simp,.inl (Nat.le_refl _)⟩
theorem wpl_append_str {P : Program} {w : World} {ops : Array Oper} {rest : List Oper} {o : Oper} {a : Act} {Q : Exit → Act → World → Prop} (hgd : o.guard = none) (sl x : Operand) (t u : TypeId)
  (ho : o.op = .call { callee := .builtin .append,args := #[sl,x],argTypes := #[t,u] })
  (e : TypeId) (i : TypeInfo) (ht : P.underlying t = some (.slice e)) (hu : P.underlying u = some .string) (hi : P.info? e = some i) (hz : i.zero = some (.int .u8 0)) (hsize : i.size = 1) (hby : i.bytes = 1)
  (blk : Option Nat) (v : Value) (n : Nat) (olds : List Value) (hs : a.eval sl = v) (hv : Whole w e 1 blk v n olds) (s : ByteArray) (hx : a.eval x = .string s) (hbytes : n + s.size ≤ 140737488355328)
  (h : ∀ v' w' blk',Whole w' e 1 blk' v' (n + s.size) (olds ++ Lib.strCells s) → w'.os = w.os → w'.tape = w.tape → w'.output = w.output → w.heap.size ≤ w'.heap.size →
   (∀ b,b < w.heap.size → w'.heap[b]? = w.heap[b]? ∨ blk = some b) → (∀ b,blk' = some b → b < w'.heap.size ∧ (w.heap.size ≤ b ∨ blk = some b)) → wpList P ops Q rest (a.put o.dst v') w') : wpList P ops Q (o :: rest) a w := by
 refine wpList_plain hgd fun K hK => ?_
 obtain ⟨v',w',blk',hr,h2,h3,h4,h5,h6,h7,h8⟩ := append_str (P := P) t u o.type e i ht hu hi hz hsize hby blk v n olds hv s hbytes
 unfold Oper.wp execOp
 simp only [ho,resolve,invoke,builtin,Sem.run_bind,Sem.run_pure,Result.andThen_ok,List.map_toArray,List.map_cons,List.map_nil,hs,hx,hr]
 exact hK _ _ (h v' w' blk' h2 h3 h4 h5 h6 h7 h8)
section
variable {P : Program} {ρ : Ren}
theorem copyCheck_str (L : Lays.n240 P ρ) (X : Builder.X72 P ρ) (b : Nat) (p v : Value) (w : World) (hb : w.heap[b]? = some (.cells #[p,v] (ρ.t 72) (0,0))) (hp : p = .pointer none ∨ p = .pointer (some ⟨b,0,none⟩)) :
  Calls P (ρ.f 240) #[.pointer (some ⟨b,0,none⟩)] w fun e w' => e = .returned (.tuple #[]) ∧ w'.heap[b]? = some (.cells #[.pointer (some ⟨b,0,none⟩),v] (ρ.t 72) (0,0)) ∧ w'.os = w.os ∧ w'.tape = w.tape ∧ w'.output = w.output ∧ w'.heap.size = w.heap.size ∧ ∀ j,j ≠ b → w'.heap[j]? = w.heap[j]? := by
 have c0 : w.cell? ⟨b,0,none⟩ = some p := by rw [Lib.cell_of_heap hb];rfl
 rcases hp with rfl | rfl
 ·refine (Any.Builder_copyCheck_fresh L X b w c0 (by simp [World.shape?,hb]) (by simp [World.frozen?,hb])).mono ?_
  rintro e w' ⟨rfl,rfl⟩
  refine ⟨rfl,?_,rfl,rfl,rfl,by simp [World.setCell],fun j hj => Below.heap_setCell _ _ _ _ hj⟩
  simp [World.setCell,Array.getElem?_modify,hb]
 ·refine (Any.Builder_copyCheck_used L X b w c0).mono ?_
  rintro e w' ⟨rfl,rfl⟩
  exact ⟨rfl,hb,rfl,rfl,rfl,rfl,fun _ _ => rfl⟩
end
end Go.Pv


set_option linter.unusedVariables false
namespace Go.Pv
open Go.RowKit Go.Proofs Go.Shelf
variable {P : Program} {ρ : Ren}
theorem whole_frame {w w' : World} {e : TypeId} {blk : Option Nat} {v : Value} {n : Nat} {olds : List Value} (h : Whole w e 1 blk v n olds) (hk : ∀ g,blk = some g → w'.heap[g]? = w.heap[g]?) : Whole w' e 1 blk v n olds := by
 refine ⟨h.1,h.2.imp id ?_⟩
 rintro ⟨b,cap,cur,h1,h2,h3,h4⟩
 exact ⟨b,cap,cur,h1,h2,by rw [hk b h1];exact h3,h4⟩
set_option maxHeartbeats 2000000 in
set_option maxRecDepth 100000 in
theorem wstr (L : Lays.n166 P ρ) (X : Builder.Extra P ρ) : WStr P (ρ.f 166) (ρ.t 72) (ρ.t 5) := by
 intro b p v blk n olds s w hb hp hw hlen
 have hne : blk ≠ some b := by
  intro e
  rcases hw.2 with ⟨e1,_⟩ | ⟨g,cap,cur,e1,_,e3,_⟩
  ·rw [e1] at e;cases e
  ·rw [e1] at e;cases e
   rw [hb] at e3
   simp only [Option.some.injEq,Obj.cells.injEq] at e3
   exact X.neB5 e3.2.1
 obtain ⟨i0,hi,hz0,hz1,hz2⟩ := info_parts X.infoByte
 have mixed := L.mixed
 have t72 := L.t72;have a72 := L.a72;have z72 := L.z72;have v72 := L.v72;have u72 := run_underlying L.t72
 have t70 := L.t70;have a70 := L.a70;have z70 := L.z70;have v70 := L.v70;have u70 := run_underlying L.t70
 have t37 := L.t37;have a37 := L.a37;have z37 := L.z37;have v37 := L.v37;have u37 := run_underlying L.t37
 have t3 := L.t3;have a3 := L.a3;have z3 := L.z3;have v3 := L.v3;have u3 := run_underlying L.t3
 have t9 := L.t9;have a9 := L.a9;have z9 := L.z9;have v9 := L.v9;have u9 := run_underlying L.t9
 have t4 := L.t4;have a4 := L.a4;have z4 := L.z4;have v4 := L.v4;have u4 := run_underlying L.t4
 have t164 := L.t164;have a164 := L.a164;have z164 := L.z164;have v164 := L.v164;have u164 := run_underlying L.t164
 have t5 := X.t5;have a5 := X.a5;have z5 := X.z5;have v5 := X.v5;have u5 := run_underlying X.t5
 have e240 : ∀ args w,(callFunc (ρ.f 240) args).run P w = .ok (.enter (ρ.f 240) args) w := enters_of L.f240 (by kernel_rfl) rfl
 go_enter L.f166,Body.n166_ntmps ρ
 go_wp2_with (go_at_fn (ρ.f 240);refine (copyCheck_str { L with } X.toX72 b p v _ hb hp).mono ?_)
 rintro e w1 ⟨rfl,hbk,hO⟩
 have o5 := hO.2.2.2.2
 have hw1 : Whole w1 (ρ.t 5) 1 blk v n olds := whole_frame hw fun g hg => o5 g fun e => hne (by rw [hg,e])
 have HO := (show Hid _ from hO)
 clear hO o5
 have c0 : w1.cell? ⟨b,0,none⟩ = some (.pointer (some ⟨b,0,none⟩)) := by rw [Lib.cell_of_heap hbk];rfl
 have c1 : w1.cell? ⟨b,1,none⟩ = some v := by rw [Lib.cell_of_heap hbk];rfl
 go_wp2_with (at_builtin;refine wpl_append_str rfl _ _ (ρ.t 37) (ρ.t 9) rfl (ρ.t 5) i0 L.t37 L.t9 hi hz0 hz1 hz2 blk _ _ _ rfl hw1 s rfl hlen ?_)
 intro v' w2 blk' hw2 q1 q2 q3 q4 q5 q6
 have ⟨o1,o2,o3,o4,o5⟩ := HO.out
 have hlt : b < w1.heap.size := (Array.getElem?_eq_some_iff.1 hbk).1
 have hb2 : w2.heap[b]? = some (.cells #[.pointer (some ⟨b,0,none⟩),v] (ρ.t 72) (0,0)) := by
  rcases q5 b hlt with e1 | e1
  ·rw [e1];exact hbk
  ·exact absurd e1 hne
 have d0 : w2.cell? ⟨b,0,none⟩ = some (.pointer (some ⟨b,0,none⟩)) := by rw [Lib.cell_of_heap hb2];rfl
 have d1 : w2.cell? ⟨b,1,none⟩ = some v := by rw [Lib.cell_of_heap hb2];rfl
 have f1 : w2.frozen? ⟨b,1,none⟩ = false := Lib.frozen_of_heap hb2 1
 have hne' : blk' ≠ some b := fun e => by
  rcases (q6 b e).2 with e1 | e1
  ·omega
  ·exact hne e1
 have HQ := (show Hid _ from And.intro q1 (And.intro q2 (And.intro q3 (And.intro q4 (And.intro q5 q6)))))
 clear q1 q2 q3 q4 q5 q6 o1 o2 o3 o4 o5
 obtain ⟨ao,n',cap,rfl⟩ : ∃ ao n' cap,v' = .slice ao n' cap := by
  rcases hw2.2 with ⟨_,hv,_⟩ | ⟨g,cap,cur,_,hv,_⟩
  ·exact ⟨_,_,_,hv⟩
  ·exact ⟨_,_,_,hv⟩
 go_wp2
 go_ret2
 have ⟨o1,o2,o3,o4,o5⟩ := HO.out
 have ⟨q1,q2,q3,q4,q5,q6⟩ := HQ.out
 refine ⟨rfl,.slice ao n' cap,blk',?_,whole_frame hw2 fun g hg => Below.heap_setCell _ _ _ _ (fun e => hne' (by rw [hg,e])),q1.trans o1,q2.trans o2,q3.trans o3,?_,fun j hj hjb => ?_,fun j hj => ?_⟩
 ·simp [World.setCell,Array.getElem?_modify,hb2]
 ·simp [World.setCell];omega
 ·rw [Below.heap_setCell _ _ _ _ hjb]
  rcases q5 j (by omega) with e1 | e1
  ·exact .inl (e1.trans (o5 j hjb))
  ·exact .inr e1
 ·have := q6 j hj
  refine ⟨by simp [World.setCell];omega,this.2.imp (fun h => by omega) id⟩
set_option maxHeartbeats 4000000 in
set_option maxRecDepth 100000 in
theorem sstr (L : Lays.n169 P ρ) (X : Builder.Extra P ρ) : SStr P (ρ.f 169) (ρ.t 72) (ρ.t 5) := by
 intro b p v blk l w hb hw
 have hlt : b < w.heap.size := (Array.getElem?_eq_some_iff.1 hb).1
 have mixed := L.mixed
 have t72 := L.t72;have a72 := L.a72;have z72 := L.z72;have v72 := L.v72;have u72 := run_underlying L.t72
 have t70 := L.t70;have a70 := L.a70;have z70 := L.z70;have v70 := L.v70;have u70 := run_underlying L.t70
 have t37 := L.t37;have a37 := L.a37;have z37 := L.z37;have v37 := L.v37;have u37 := run_underlying L.t37
 have t127 := L.t127;have a127 := L.a127;have z127 := L.z127;have v127 := L.v127;have u127 := run_underlying L.t127
 have t3 := L.t3;have a3 := L.a3;have z3 := L.z3;have v3 := L.v3;have u3 := run_underlying L.t3
 have t9 := L.t9;have a9 := L.a9;have z9 := L.z9;have v9 := L.v9;have u9 := run_underlying L.t9
 have t5 := X.t5;have a5 := X.a5;have z5 := X.z5;have v5 := X.v5;have u5 := run_underlying X.t5
 have c1 : w.drew.cell? ⟨b,1,none⟩ = some v := by
  have : w.drew.heap[b]? = some (.cells #[p,v] (ρ.t 72) (0,0)) := hb
  rw [Lib.cell_of_heap this];rfl
 by_cases hl0 : l = []
 ·subst hl0
  have hUS := Any.unsafeString_none L X
  rcases hw.2 with ⟨rfl,rfl,_⟩ | ⟨g,cap,cur,rfl,rfl,hg,hnc,hcm,hcs,htake⟩
  ·have hSD : (Builtin.unsafeSliceData_ #[(ρ.t 37)] (ρ.t 127) #[.slice none 0 0]).run P w.drew = .ok (.pointer none) w.drew := rfl
   go_enter L.f169,Body.n169_ntmps ρ
   go_wp2
   go_region_o
   all_goals (go_wp2;go_ret;exact ⟨rfl,rfl,rfl,rfl,Nat.le_refl _,fun _ _ => .inl rfl⟩)
  ·by_cases hc0 : cap = 0
   ·subst hc0
    have hSD : (Builtin.unsafeSliceData_ #[(ρ.t 37)] (ρ.t 127) #[.slice (some ⟨g,0,none⟩) 0 0]).run P w.drew = .ok (.pointer (some ⟨w.drew.heap.size,0,none⟩)) (w.drew.alloc (.view ⟨g,0,none⟩ (ρ.t 5))) :=
     Lib.run_unsafeSliceData_zero w.drew _ _ (ρ.t 5) L.t127 ⟨g,0,none⟩ 0 ((ρ.t 5),cur.size) (by have hg' : w.drew.heap[g]? = some (.cells cur (ρ.t 5) (0,0)) := hg;simp [World.shape?,hg'])
    have c2 : (w.drew.alloc (.view ⟨g,0,none⟩ (ρ.t 5))).cell? ⟨b,1,none⟩ = some (.slice (some ⟨g,0,none⟩) 0 0) := by
     have : (w.drew.alloc (.view ⟨g,0,none⟩ (ρ.t 5))).heap[b]? = _ := (Lib.alloc_old w.drew _ b hlt).trans hb
     rw [Lib.cell_of_heap this];rfl
    have c3 : (w.alloc (.view ⟨g,0,none⟩ (ρ.t 5))).drew.cell? ⟨b,1,none⟩ = some (.slice (some ⟨g,0,none⟩) 0 0) := c2
    have c0 : w.cell? ⟨b,1,none⟩ = some (.slice (some ⟨g,0,none⟩) 0 0) := c1
    go_enter L.f169,Body.n169_ntmps ρ
    go_wp2
    go_region_o
    all_goals (go_wp2;go_ret;exact ⟨rfl,rfl,rfl,rfl,by simp,fun j hj => .inl (Below.heap_alloc w.drew _ j hj)⟩)
   ·have hSD : (Builtin.unsafeSliceData_ #[(ρ.t 37)] (ρ.t 127) #[.slice (some ⟨g,0,none⟩) 0 cap]).run P w.drew = .ok (.pointer (some ⟨g,0,none⟩)) w.drew :=
     Lib.run_unsafeSliceData_row _ _ _ _ _ _ hc0
    have c1 : w.drew.cell? ⟨b,1,none⟩ = some (.slice (some ⟨g,0,none⟩) 0 cap) := c1
    clear hc0
    go_enter L.f169,Body.n169_ntmps ρ
    go_wp2
    go_region_o
    all_goals (go_wp2;go_ret;exact ⟨rfl,rfl,rfl,rfl,Nat.le_refl _,fun _ _ => .inl rfl⟩)
 ·have hll : l.length ≠ 0 := by simpa using hl0
  obtain ⟨g,cap,cur,rfl,rfl,hg,hnc,hcm,hcs,htake⟩ : ∃ g cap cur,blk = some g ∧ v = .slice (some ⟨g,0,none⟩) l.length cap ∧ w.heap[g]? = some (.cells cur (ρ.t 5) (0,0)) ∧ l.length ≤ cap ∧ cap ≤ maxLen ∧ cur.size = cap * 1 ∧ cur.toList.take (l.length * 1) = Lib.byteCells l := by
   rcases hw.2 with ⟨_,_,hz⟩ | h
   ·exact absurd hz hll
   ·exact h
  have hSD : (Builtin.unsafeSliceData_ #[(ρ.t 37)] (ρ.t 127) #[.slice (some ⟨g,0,none⟩) l.length cap]).run P w.drew = .ok (.pointer (some ⟨g,0,none⟩)) w.drew :=
   Lib.run_unsafeSliceData_row _ _ _ _ _ _ (by omega)
  have hUS : (Builtin.unsafeString_ #[(ρ.t 127),(ρ.t 3)] (ρ.t 9) #[.pointer (some ⟨g,0,none⟩),.int .i64 l.length]).run P w.drew = .ok (.string ⟨l.toArray⟩) (w.drew.freeze ⟨g,0,none⟩ l.length) := by
   refine Lib.run_unsafeString_row w.drew (ρ.t 127) (ρ.t 3) (ρ.t 9) (ρ.t 5) L.t127 X.cellsByte g cur.size (by have hg' : w.drew.heap[g]? = some (.cells cur (ρ.t 5) (0,0)) := hg;simp [World.shape?,hg']) l hl0 (by omega) (by unfold maxLen at hcm;omega) ?_
   intro j x hx
   have hg' : w.drew.heap[g]? = some (.cells cur (ρ.t 5) (0,0)) := hg
   rw [Addr.add_mk,Nat.zero_add,cell_of_cells hg']
   have hu : (Lib.byteCells l)[j]? = some (.int .u8 x.toNat) := by simp [Lib.byteCells,hx]
   rw [← htake,List.getElem?_take] at hu
   split at hu
   ·simpa using hu
   ·cases hu
  have hfr : ∀ j,j ≠ g → (w.drew.freeze ⟨g,0,none⟩ l.length).heap[j]? = w.heap[j]? := fun j hj => by
   unfold World.freeze
   split
   ·rfl
   ·show (w.heap.modify g _)[j]? = _
    rw [Array.getElem?_modify,if_neg (fun e => hj e.symm)]
  have hfs : (w.drew.freeze ⟨g,0,none⟩ l.length).heap.size = w.heap.size ∧ (w.drew.freeze ⟨g,0,none⟩ l.length).os = w.os ∧ (w.drew.freeze ⟨g,0,none⟩ l.length).tape = w.tape ∧ (w.drew.freeze ⟨g,0,none⟩ l.length).output = w.output := by
   unfold World.freeze
   split
   ·exact ⟨rfl,rfl,rfl,rfl⟩
   ·exact ⟨Array.size_modify,rfl,rfl,rfl⟩
  have HF := (show Hid _ from And.intro hfr hfs)
  clear hfr hfs
  go_enter L.f169,Body.n169_ntmps ρ
  go_wp2
  go_region_o
  all_goals (go_wp2;go_ret;have ⟨hfr,hfs⟩ := HF.out;exact ⟨rfl,hfs.2.1,hfs.2.2.1,hfs.2.2.2,by rw [hfs.1];exact Nat.le_refl _,fun j hj => by
   by_cases e : j = g
   ·exact .inr (by rw [e])
   ·exact .inl (hfr j e)⟩)
end Go.Pv


set_option linter.unusedVariables false
namespace Go.Pv
open Go.RowKit
variable [Globs]
def rowB (c : UInt8) : List PV := [.int .u8 c.toNat]
def bldC (T kb gb n : Nat) : Cont := ⟨T + 1,0,[[.int .i64 T,.als kb gb 0 n]],5⟩
omit [Globs] in
theorem flat_cells (E : Env) (l : List UInt8) : FlatRep E 0 1 (l.map rowB) (Lib.byteCells l) := by
 refine ⟨by simp [Lib.byteCells],fun row hr => ?_,fun i j row pv e1 e2 => ?_⟩
 ·obtain ⟨c,_,rfl⟩ := List.mem_map.1 hr
  rfl
 ·rw [List.getElem?_map,Option.map_eq_some_iff] at e1
  obtain ⟨c,h1,rfl⟩ := e1
  have hj : j = 0 := by
   rcases j with _ | j
   ·rfl
   ·simp [rowB] at e2
  subst hj
  simp only [rowB,List.getElem?_cons_zero,Option.some.injEq] at e2
  subst e2
  refine ⟨.int .u8 c.toNat,by simp [Lib.byteCells,h1],rfl,?_⟩
  exact .int _ _
omit [Globs] in
theorem flat_bytes {E : Env} {l : List UInt8} {olds : List Value} (h : FlatRep E 0 1 (l.map rowB) olds) : olds = Lib.byteCells l := by
 have hl : olds.length = l.length := by have := h.len;simpa using this
 refine List.ext_getElem? fun i => ?_
 rcases Nat.lt_or_ge i l.length with hi | hi
 ·obtain ⟨v,h1,_,h3⟩ := h.at_ i 0 (rowB l[i]) (.int .u8 l[i].toNat) (by simp [hi]) rfl
  rw [show i * 1 + 0 = i by omega] at h1
  rw [h1]
  have h3 : DRep _ _ _ _ := h3
  cases h3
  simp [Lib.byteCells,hi]
 ·rw [List.getElem?_eq_none (by omega),List.getElem?_eq_none (by simp [Lib.byteCells];omega)]
section
variable {P : Program} {L : Lay} {s : St}
theorem pw_at (id : Nat) {ops : Array Oper} {d : Bool} {Q : Exit → St → Prop} (h : PWP P L (.region id ops d) Q s) : PWP P L (.region id ops d) Q s := h
theorem whole_als {w : World} {e : TypeId} {blk blk2 : Option Nat} {n : Nat} {v : Value} {vals : List Value} (h : Whole w e 1 blk v n vals) : AlsAt w ⟨blk,e,1,n⟩ 0 n v := by
 rcases h.2 with ⟨rfl,rfl,h0⟩ | ⟨b,cap,cur,rfl,rfl,f1,f2,f3,f4,f5⟩
 ·exact .inl ⟨rfl,rfl,h0,rfl⟩
 ·exact .inr ⟨b,cap,cur,rfl,by simp,f1,f2,f3,by rw [f4,Nat.zero_add],by simp⟩
theorem Sim.bld {C : Ctx} {γ : Nat → Option Nat} {a : Act} {w : World} (hs : Sim C γ s a w) {x : Operand} {k g T e kb gb n : Nat} {l : List UInt8} (hx : s.ev x = .mi k g) (ho : s.own k = (g,some (bldC T kb gb n))) (hob : s.own kb = (gb,some ⟨e,1,l.map rowB,0⟩)) (hn : n = l.length) :
  ∃ b p v,γ k = some b ∧ a.eval x = .pointer (some ⟨b,0,none⟩) ∧ w.heap[b]? = some (.cells #[p,v] T (0,0)) ∧ (p = .pointer none ∨ p = .pointer (some ⟨b,0,none⟩)) ∧ Whole w e 1 (γ kb) v l.length (Lib.byteCells l) := by
 have hxr := hs.ev x
 rw [hx] at hxr
 obtain ⟨_,b,hb,hv⟩ := hs.mi_at hxr ho
 have hit := (hs.sites k _ (by rw [ho])).it b hb rfl (show (3:Nat) ≤ 5 by decide)
 obtain ⟨T',kb',gb',n',p,v,h1,h2,h3,h4⟩ : BldAt (envOf C γ s w) b (bldC T kb gb n).rows := hit
 simp only [bldC,List.cons.injEq,PV.int.injEq,PV.als.injEq,and_true,true_and,Int.natCast_inj] at h1
 obtain ⟨rfl,rfl,rfl,rfl⟩ := h1
 refine ⟨b,p,v,hb,hv,h2,h3,?_⟩
 rcases hs.als_at h4 hob with ⟨h5,_,h6,rfl⟩ | ⟨b2,cap,cur,f1,rfl,f3,f4,f5,f6,f7⟩
 ·have hl : l = [] := List.eq_nil_of_length_eq_zero (by omega)
  subst hl
  exact ⟨rfl,.inl ⟨h5,rfl,rfl⟩⟩
 ·simp only at f1 f3 f4 f5 f6
  have hsite := hs.sites kb _ (by rw [hob])
  rw [f1] at hsite
  obtain ⟨cur',g1,g2,g3,g4⟩ := hsite.flat (show 0 < 1 by decide)
  have g1 : w.heap[b2]? = some (.cells cur' e (0,0)) := g1
  rw [g1] at f3
  simp only [Option.some.injEq,Obj.cells.injEq,and_true] at f3
  subst f3
  have hbytes := flat_bytes g4
  refine ⟨by simp [Lib.byteCells],.inr ⟨b2,cap,cur',f1,by simp [hn],g1,by omega,f5,by omega,?_⟩⟩
  simpa using hbytes
theorem sm_bnew {d : Nat} {ty : TypeId} {pos : String} {af : Array Edge} {T : TypeId} {K : St → Prop} (k kb : Nat) (e : TypeId) {gk gkb : Nat} {oc ocb : Option Cont} (hne : Nat.beq k kb = false) (ho : s.own k = (gk,oc)) (hob : s.own kb = (gkb,ocb))
  (hz : ((P.info? T).bind (·.zero)).map (·.cells) = some #[.pointer none,.slice none 0 0])
  (h : K (((s.setOwn kb (gkb + 1) (some ⟨e,1,[],0⟩)).setOwn k (gk + 1) (some (bldC T kb (gkb + 1) 0))).putR d (.mi k (gk + 1)))) : Sm P L s ⟨some d,.alloc T,ty,pos,af,none⟩ K := by
 intro C a w Q hG ⟨γ,hs⟩ hN
 have hkk : k ≠ kb := fun e => by rw [e] at hne;simp at hne
 obtain ⟨zv,hzv,hzc⟩ := Option.map_eq_some_iff.1 hz
 obtain ⟨i,hi,hiz⟩ := Option.bind_eq_some_iff.1 hzv
 have ht1 : Turn C γ s w w kb none := ⟨rfl,rfl,rfl,Nat.le_refl _,fun b _ => .inl rfl,fun b hb => by cases hb⟩
 have hs1 := ht1.sim hs (c := ⟨e,1,[],0⟩) (.none_ rfl)
 have hfin1 : s.fin kb ⟨e,1,[],0⟩ = s.setOwn kb (gkb + 1) (some ⟨e,1,[],0⟩) := by rw [St.fin,hob]
 rw [hfin1] at hs1
 have ht2 : Turn C (upg γ kb none) (s.setOwn kb (gkb + 1) (some ⟨e,1,[],0⟩)) w (w.alloc (.cells #[.pointer none,.slice none 0 0] T)) k (some w.heap.size) := Turn.alloc _ k
 have hfin2 : (s.setOwn kb (gkb + 1) (some ⟨e,1,[],0⟩)).fin k (bldC T kb (gkb + 1) 0) = (s.setOwn kb (gkb + 1) (some ⟨e,1,[],0⟩)).setOwn k (gk + 1) (some (bldC T kb (gkb + 1) 0)) := by
  rw [St.fin,setOwn_ne hkk,ho]
 have hs2 := ht2.sim hs1 (c := bldC T kb (gkb + 1) 0) ⟨(fun e => by cases e),(fun b' _ _ hk => by simp [bldC] at hk),(fun b' hb' _ _ => by
  simp at hb';subst hb'
  show BldAt _ _ _
  refine ⟨T,kb,gkb + 1,0,.pointer none,.slice none 0 0,rfl,heap_alloc_at _ _,.inl rfl,?_⟩
  rw [hfin2]
  refine .als ?_ fun _ l hl => ?_
  ·show _ ≤ (((s.setOwn kb (gkb + 1) (some ⟨e,1,[],0⟩)).setOwn k (gk + 1) (some (bldC T kb (gkb + 1) 0))).own kb).1
   rw [setOwn_ne (Ne.symm hkk),setOwn_same];exact Nat.le_refl _
  ·simp only [envOf,setOwn_ne (Ne.symm hkk),setOwn_same,upg_ne (Ne.symm hkk),upg_same,Option.map_some,Option.some.injEq] at hl
   subst hl
   exact .inl ⟨rfl,rfl,rfl,rfl⟩),(fun b' _ hz => by simp [bldC] at hz)⟩
 rw [hfin2] at hs2
 have hrun : (execOp a.eval ⟨some d,.alloc T,ty,pos,af,none⟩).run P w = .ok (.value (.pointer (some ⟨w.heap.size,0,none⟩))) (w.alloc (.cells #[.pointer none,.slice none 0 0] T)) := by
  simp [execOp,Instr.alloc,zeroValue,typeInfo,hi,hiz,hzc,newVar,newRow]
 unfold Oper.wp
 rw [hrun,Oper.upon_value]
 refine ⟨_,⟨_,hs2.put (d := some d) hN (.mi ?_ fun _ l hl => ?_)⟩,h⟩
 ·show _ ≤ (((s.setOwn kb (gkb + 1) (some ⟨e,1,[],0⟩)).setOwn k (gk + 1) (some (bldC T kb (gkb + 1) 0))).own k).1
  rw [setOwn_same];exact Nat.le_refl _
 ·simp only [envOf,setOwn_same,upg_same,Option.map_some,Option.some.injEq] at hl
  subst hl
  exact ⟨rfl,_,rfl,rfl⟩
theorem sm_bwrite {d : Nat} {ty : TypeId} {pos : String} {af : Array Edge} {f : FuncId} {x y : Operand} {tys : Array TypeId} {K : St → Prop} {k g T e kb gb n : Nat} {l s2 : List UInt8} (hc : callable P f) (hw : WStr P f T e) (hTe : Nat.beq T e = false) (hne : Nat.beq k kb = false)
  (hx : s.ev x = .mi k g) (hy : s.ev y = .str s2) (ho : s.own k = (g,some (bldC T kb gb n))) (hob : s.own kb = (gb,some ⟨e,1,l.map rowB,0⟩)) (hn : n = l.length) (hlen : l.length + s2.length ≤ 140737488355328)
  (h : K (((s.setOwn kb (gb + 1) (some ⟨e,1,(l ++ s2).map rowB,0⟩)).setOwn k g (some (bldC T kb (gb + 1) (l ++ s2).length))).putR d (.tup [.int .i64 s2.length,.raw .nilIface]))) :
  Sm P L s ⟨some d,.call ⟨.value (.func f),#[x,y],tys⟩,ty,pos,af,none⟩ K := by
 intro C a w Q hG ⟨γ,hs⟩ hN
 have hkk : k ≠ kb := fun e => by rw [e] at hne;simp at hne
 have hTe' : T ≠ e := fun h => by rw [h] at hTe;simp at hTe
 obtain ⟨b,p,v,hb,hv,hheap,hp,hwh⟩ := hs.bld hx ho hob hn
 have hyv := hs.ev y
 rw [hy] at hyv
 have hyv := hyv.str_inv
 have hblt : b < w.heap.size := (Array.getElem?_eq_some_iff.1 hheap).1
 unfold Oper.wp
 rw [run_call (f := f) (a := a) (vs := []) rfl rfl hc,Oper.upon_enter]
 rw [show (((#[x,y] : Array Operand).toList.map a.eval ++ ([] : List Value)).toArray : Array Value) = #[Value.pointer (some ⟨b,0,none⟩),Value.string ⟨s2.toArray⟩] by simp [hv,hyv]]
 refine (hw b p v (γ kb) l.length (Lib.byteCells l) ⟨s2.toArray⟩ w hheap hp hwh (by rw [bytes_size];exact hlen)).mono ?_
 rintro _ w' ⟨rfl,v',blk',q1,q2,q3,q4,q5,q6,q7,q8⟩
 rw [bytes_size] at q2
 have hcells : Lib.byteCells l ++ Lib.strCells ⟨s2.toArray⟩ = Lib.byteCells (l ++ s2) := by
  simp [Lib.byteCells,Lib.strCells]
 rw [hcells] at q2
 have hll : (l ++ s2).length = l.length + s2.length := List.length_append
 obtain ⟨w1,hw1⟩ : ∃ w1 : World,w1 = { w' with heap := w'.heap.setIfInBounds b (.cells #[p,v] T) } := ⟨_,rfl⟩
 have hb1 : w1.heap[b]? = some (.cells #[p,v] T (0,0)) := by rw [hw1];exact (put_set q1).2
 have ho1 : ∀ j,j ≠ b → w1.heap[j]? = w'.heap[j]? := fun j hj => by rw [hw1];exact (put_set q1).1.other j hj
 have hsz1 : w1.heap.size = w'.heap.size := by rw [hw1];simp
 have hblk : ∀ j,blk' = some j → j ≠ b := by
  rintro j hj rfl
  rcases q2.2 with ⟨e1,_⟩ | ⟨b2,cap,cur,e1,_,e3,_⟩
  ·rw [e1] at hj;cases hj
  ·rw [e1] at hj;cases hj
   rw [q1] at e3
   simp only [Option.some.injEq,Obj.cells.injEq] at e3
   exact hTe' e3.2.1
 have hwh1 : Whole w1 e 1 blk' v' (l.length + s2.length) (Lib.byteCells (l ++ s2)) := whole_frame q2 fun j hj => ho1 j (hblk j hj)
 have ht : Turn C γ s w w1 kb blk' := by
  refine ⟨by rw [hw1];exact q3,by rw [hw1];exact q4,by rw [hw1];exact q5,by rw [hsz1];exact q6,fun j hj => ?_,fun j hj => ?_⟩
  ·by_cases hjb : j = b
   ·subst hjb;exact .inl (by rw [hb1,hheap])
   ·rw [ho1 j hjb]
    exact (q7 j hj hjb).imp id fun h => ⟨by rw [hob];rfl,h⟩
  ·rw [hsz1]
   exact ⟨(q8 j hj).1,(q8 j hj).2.imp id fun h => ⟨by rw [hob];rfl,h⟩⟩
 have hfin : s.fin kb ⟨e,1,(l ++ s2).map rowB,0⟩ = s.setOwn kb (gb + 1) (some ⟨e,1,(l ++ s2).map rowB,0⟩) := by rw [St.fin,hob]
 have hs1 := ht.sim hs (c := ⟨e,1,(l ++ s2).map rowB,0⟩) (by
  rcases hwh1.2 with ⟨e1,e2,e3⟩ | ⟨b2,cap,cur,e1,e2,e3,e4,e5,e6,e7⟩
  ·have hnil : l ++ s2 = [] := List.eq_nil_of_length_eq_zero (by omega)
   rw [hnil,e1];exact .none_ rfl
  ·rw [e1]
   refine SiteOk.of_flat (flat_cells _ _) (by decide) e3 ?_ ?_
   ·simp;omega
   ·rw [List.length_map,hll];exact e7)
 rw [hfin] at hs1
 have hput : Put w1 w' b := ⟨by rw [hw1],by rw [hw1],by rw [hw1],hsz1.symm,fun j hj => (ho1 j hj).symm⟩
 have hs2 := put_simT (c' := bldC T kb (gb + 1) (l ++ s2).length) hs1 (k := k) (g := g) (b := b) (c := bldC T kb gb n) (by rw [setOwn_ne hkk];exact ho) (by rw [upg_ne hkk];exact hb) (fun cur => by
  rw [hb1]
  intro h
  exact absurd (Obj.cells.inj (Option.some.inj h)).2.1 (by show ¬ T = T + 1;omega)) hput rfl rfl (Nat.le_refl _) ⟨(fun e => by cases e),(fun b' _ _ hk => by simp [bldC] at hk),(fun b' hb' _ _ => by
  simp at hb';subst hb'
  show BldAt _ _ _
  refine ⟨T,kb,gb + 1,(l ++ s2).length,_,v',rfl,q1,.inr rfl,.als ?_ fun _ lc hl => ?_⟩
  ·show _ ≤ (((s.setOwn kb (gb + 1) (some ⟨e,1,(l ++ s2).map rowB,0⟩)).setOwn k g (some (bldC T kb (gb + 1) (l ++ s2).length))).own kb).1
   rw [setOwn_ne (Ne.symm hkk),setOwn_same];exact Nat.le_refl _
  ·simp only [envOf,setOwn_ne (Ne.symm hkk),setOwn_same,upg_same,Option.map_some,Option.some.injEq] at hl
   subst hl
   rw [List.length_map,hll]
   exact whole_als (blk2 := none) q2),(fun b' _ hz => by simp [bldC] at hz)⟩
 refine ⟨_,⟨_,hs2.put (d := some d) hN ?_⟩,h⟩
 refine .d (.tup _ [.int .i64 s2.length,.nilIface] rfl fun i c u e1 e2 => ?_)
 rcases i with _ | _ | i
 ·simp at e1 e2;subst e1;subst e2;exact .int _ _
 ·simp at e1 e2;subst e1;subst e2;exact .raw _
 ·simp at e1
theorem sm_bread {d : Nat} {ty : TypeId} {pos : String} {af : Array Edge} {f : FuncId} {x : Operand} {tys : Array TypeId} {K : St → Prop} {k g T e kb gb n : Nat} {l : List UInt8} (hc : callable P f) (hw : SStr P f T e)
  (hx : s.ev x = .mi k g) (ho : s.own k = (g,some (bldC T kb gb n))) (hob : s.own kb = (gb,some ⟨e,1,l.map rowB,0⟩)) (hn : n = l.length)
  (h : K ((s.setOwn kb (gb + 1) (some ⟨e,1,[],0⟩)).putR d (.str l))) :
  Sm P L s ⟨some d,.call ⟨.value (.func f),#[x],tys⟩,ty,pos,af,none⟩ K := by
 intro C a w Q hG ⟨γ,hs⟩ hN
 obtain ⟨b,p,v,hb,hv,hheap,hp,hwh⟩ := hs.bld hx ho hob hn
 unfold Oper.wp
 rw [run_call (f := f) (a := a) (vs := []) rfl rfl hc,Oper.upon_enter]
 rw [show (((#[x] : Array Operand).toList.map a.eval ++ ([] : List Value)).toArray : Array Value) = #[Value.pointer (some ⟨b,0,none⟩)] by simp [hv]]
 refine (hw b p v (γ kb) l w hheap hwh).mono ?_
 rintro _ w' ⟨rfl,q3,q4,q5,q6,q7⟩
 have ht : Turn C γ s w w' kb none := ⟨q3,q4,q5,q6,fun j hj => (q7 j hj).imp id fun h => ⟨by rw [hob];rfl,h⟩,fun b hb => by cases hb⟩
 have hfin : s.fin kb ⟨e,1,[],0⟩ = s.setOwn kb (gb + 1) (some ⟨e,1,[],0⟩) := by rw [St.fin,hob]
 have hs1 := ht.sim hs (c := ⟨e,1,[],0⟩) (.none_ rfl)
 rw [hfin] at hs1
 exact ⟨_,⟨_,hs1.put (d := some d) hN (.d (.str _))⟩,h⟩
end
end Go.Pv


set_option maxHeartbeats 2000000
namespace Go.Pv
attribute [local irreducible] PWP POps PQuiet PSem XThen XBlock RetPost InlPost
open Go.Proofs
theorem wstr78 : WStr Tryz.prog 78 141 5 := wstr { Tryz.lays156 with } Tryz.Builder_Extra_156
theorem sstr79 : SStr Tryz.prog 79 141 5 := sstr Tryz.lays169 Tryz.Builder_Extra_169
def jrnS (q : Str × Int) (p : SPost) : Str × Int := (q.1 ++ lineT q.2 (textP p),sumF q.2 (textP p))
def jrnF (l : List SPost) : Str × Int := l.foldl jrnS ([],1)
theorem jrn_snoc (l : List SPost) (p : SPost) : jrnF (l ++ [p]) = jrnS (jrnF l) p := by rw [jrnF,List.foldl_append];rfl
theorem jrn_next {l : List SPost} {k : Nat} {p : SPost} (h : l[k]? = some p) : jrnF (l.take (k + 1)) = jrnS (jrnF (l.take k)) p := by rw [take_snoc h,jrn_snoc]
theorem line_len {n : Int} {t : Str} (h0 : 0 ≤ n) (h1 : n < 65521) (ht : t.length ≤ 200) : (lineT n t).length ≤ 250 := by
 have hr := sumF_range t h0 h1
 have := itoa_short (v := sumF n t) (by omega) (by omega)
 simp only [lineT,List.length_append,List.length_cons,List.length_nil]
 omega
theorem jrn_fine {l : List SPost} (h : ∀ p ∈ l,checkE p = 0) : ∀ k,k ≤ l.length → 0 ≤ (jrnF (l.take k)).2 ∧ (jrnF (l.take k)).2 < 65521 ∧ (jrnF (l.take k)).1.length ≤ 250 * k
 |0,_ => ⟨by simp [jrnF],by simp [jrnF],by simp [jrnF]⟩
 |k + 1,hk => by
  obtain ⟨h1,h2,h3⟩ := jrn_fine h k (by omega)
  have hx : l[k]? = some l[k] := List.getElem?_eq_getElem (by omega)
  have hc := h l[k] (by simp)
  have hp := text_short hc
  have hr := sumF_range (textP l[k]) h1 h2
  have hl := line_len h1 h2 hp
  rw [jrn_next hx]
  refine ⟨hr.1,hr.2,?_⟩
  simp only [jrnS,List.length_append]
  omega
set_option maxRecDepth 20000 in
theorem journal_ret (l : List SPost) (hc : ∀ p ∈ l,checkE p = 0) (hl : l.length ≤ 1000000) : Ret Tryz.prog .shared 23 [.dref (eBook l) 0] (.str (jrnF l).1) := by
 have hll : ((l.map ePost).length : Int) = l.length := by simp
 refine Ret.of_pwp layOk mixed Go.Proofs.Tryz.func23 rfl (by decide) rfl rfl ?_
 ((repeat ((fail_if_success (with_reducible refine pw_at 3 ?_));refine stx rfl ?_));refine pw_regionS 0 ?_)
 refine ps_nil ?_
 refine psem_sm rfl (sm_bnew 3 1003 5 rfl rfl rfl (by kernel_rfl) ?_)
 refine psem_ops ?_
 repeat refine stq rfl ?_
 refine pw_loop (fun k => k ≤ l.length) (fun k => [(3,.mi 3 1),(4,I (jrnF (l.take k)).2),(14,.sl (l.map ePost)),(15,I (l.map ePost).length),(16,I k)])
  (fun k => [(3,1,bldC 141 1003 (1 + k) (jrnF (l.take k)).1.length),(1003,1 + k,⟨5,1,(jrnF (l.take k)).1.map rowB,0⟩)]) (fun k => l.length - k) 0 (Nat.zero_le _) ⟨rfl,rfl,rfl,rfl,rfl,rfl,rfl,trivial⟩ ?_
 intro k st hk
 have hf := jrn_fine hc k hk
 repeat refine stq rfl ?_
 refine pw_cond rfl (fun h => ?_) (fun h => ?_)
 ·have hlt : k < l.length := by have := of_decide_eq_true h;omega
  clear h
  obtain ⟨p,hx⟩ := get_lt hlt
  have hcp := hc p (List.mem_of_getElem? hx)
  have hcall := line_ret p (jrnF (l.take k)).2 hcp hf.1 hf.2.1
  have hll := line_len hf.1 hf.2.1 (text_short hcp)
  have hnx := jrn_next hx
  rw [jrnS] at hnx
  generalize jrnF (l.take k) = q at *
  generalize lineT q.2 (textP p) = t at *
  generalize sumF q.2 (textP p) = m at *
  repeat refine stq rfl ?_
  refine qst rfl rfl (q_idxm rfl rfl rfl rfl rfl (by omega) hx rfl) ?_
  repeat refine stq rfl ?_
  refine qst rfl rfl (q_cp rfl hcall rfl rfl rfl) ?_
  ((repeat ((fail_if_success (with_reducible refine pw_at 9 ?_));refine stx rfl ?_));refine pw_regionS 1 ?_)
  refine stq rfl ?_
  refine ps_nil ?_
  refine psem_sm rfl (sm_bwrite (T := 141) (e := 5) ⟨_,Go.Proofs.Tryz.func78,by decide,rfl⟩ wstr78 rfl rfl rfl rfl rfl rfl rfl (by omega) ?_)
  refine psem_ops ?_
  repeat refine stq rfl ?_
  refine ⟨k + 1,by omega,by omega,?_⟩
  rw [hnx]
  exact ⟨rfl,rfl,rfl,rfl,i64_next (by omega) (by omega),rfl,rfl,trivial⟩
 ·have hz : k = l.length := by have := of_decide_eq_false h;omega
  subst hz
  rw [List.take_length] at *
  ((repeat ((fail_if_success (with_reducible refine pw_at 12 ?_));refine stx rfl ?_));refine pw_regionS 0 ?_)
  refine ps_nil ?_
  refine psem_sm rfl (sm_bread (T := 141) (e := 5) ⟨_,Go.Proofs.Tryz.func79,by decide,rfl⟩ sstr79 rfl rfl rfl rfl ?_)
  refine psem_ops ?_
  repeat refine stq rfl ?_
  exact end1 rfl rfl rfl trivial rfl
set_option maxRecDepth 20000 in
theorem journal_ref (l : List SPost) (hc : ∀ p ∈ l,checkE p = 0) (hl : l.length ≤ 1000000) : Ret Tryz.prog .shared 24 [.sl (l.map ePost)] (.str (jrnF l).1) := by
 have hll : ((l.map ePost).length : Int) = l.length := by simp
 refine Ret.of_pwp layOk mixed Go.Proofs.Tryz.func24 rfl (by decide) rfl rfl ?_
 repeat refine stq rfl ?_
 refine pw_loop (fun k => k ≤ l.length) (fun k => [(0,.sl (l.map ePost)),(3,I (jrnF (l.take k)).2),(4,.str (jrnF (l.take k)).1),(5,I k)])
  (fun _ => []) (fun k => l.length - k) 0 (Nat.zero_le _) ⟨rfl,rfl,rfl,rfl,trivial⟩ ?_
 intro k st hk
 have hf := jrn_fine hc k hk
 repeat refine stq rfl ?_
 refine pw_cond rfl (fun h => ?_) (fun h => ?_)
 ·have hlt : k < l.length := by have := of_decide_eq_true h;omega
  clear h
  obtain ⟨p,hx⟩ := get_lt hlt
  have hcp := hc p (List.mem_of_getElem? hx)
  have hcall := format_ref p hcp
  have hts := text_short hcp
  have hck := checked_ref (jrnF (l.take k)).2 (textP p) hf.1 hf.2.1 (by omega)
  have hr := sumF_range (textP p) hf.1 hf.2.1
  have hde := decimal_ret (sumF (jrnF (l.take k)).2 (textP p)) (by omega) (by omega)
  have hds : (Lib.itoa (sumF (jrnF (l.take k)).2 (textP p))).length ≤ 20 := by have := itoa_short (v := sumF (jrnF (l.take k)).2 (textP p)) (by omega) (by omega);omega
  have hnx := jrn_next hx
  rw [jrnS,lineT] at hnx
  generalize jrnF (l.take k) = q at *
  generalize textP p = t at *
  generalize sumF q.2 t = m at *
  generalize Lib.itoa m = u at *
  repeat refine stq rfl ?_
  refine qst rfl rfl (q_idxm rfl rfl rfl rfl rfl (by omega) hx rfl) ?_
  repeat refine stq rfl ?_
  refine qst rfl rfl (q_cp rfl hcall rfl rfl rfl) ?_
  repeat refine stq rfl ?_
  refine qst rfl rfl (q_cp rfl hck rfl rfl rfl) ?_
  repeat refine stx rfl ?_
  refine ps_v rfl ?_ ?_
  ·omega
  repeat refine stx rfl ?_
  refine ps_v rfl ?_ ?_
  ·simp only [List.length_append,List.length_cons,List.length_nil];omega
  repeat refine stx rfl ?_
  refine qst rfl rfl (q_cp rfl hde rfl rfl rfl) ?_
  repeat refine stx rfl ?_
  refine ps_v rfl ?_ ?_
  ·simp only [List.length_append,List.length_cons,List.length_nil];omega
  repeat refine stx rfl ?_
  refine ps_v rfl ?_ ?_
  ·simp only [List.length_append,List.length_cons,List.length_nil];omega
  repeat refine stx rfl ?_
  refine ⟨k + 1,by omega,by omega,?_⟩
  rw [hnx]
  refine ⟨rfl,rfl,?_,i64_next (by omega) (by omega),trivial⟩
  show PV.str _ = PV.str _
  simp only [List.append_assoc]
 ·have hz : k = l.length := by have := of_decide_eq_false h;omega
  subst hz
  rw [List.take_length] at *
  repeat refine stq rfl ?_
  exact end1 rfl rfl rfl trivial rfl
end Go.Pv

