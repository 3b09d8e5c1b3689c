/- Texts of one hand, gathered: FcQ, FcR, FcS, FcT, FcU, FcV, FdV, FcW, FcX, FcY, FcZ, FdA, FdB, FdC, FdD, FdE, FdF, FdG, FdH, FdI, FdK, FdL, FmK, FdN, FmL, FdT, FdO, FdP, FdQ, FdR, FdS, FdU, FdM, FsA, FsB, FsC, FsD, PvXw, FsE. -/
import Derived.Test.YtjejnoojnndnlaaGreatEa4
import Derived.Lib.SlicesCompact
set_option linter.unusedSectionVars false
set_option linter.unusedSimpArgs false
set_option linter.unusedVariables false
set_option linter.unnecessarySimpa false
set_option maxHeartbeats 2000000
namespace Go.Pv
attribute [local irreducible] PWP POps PQuiet PSem aC au aj ai
open Go.Proofs Go.RowKit Go.Sort
theorem Sim.cutS {C : Ctx} {γ : Nat → Option Nat} {s : St} {a : Act} {w : World} (h : Sim C γ s a w) {k g n : Nat} {c : Cont} (ho : s.own k = (g,some c)) (hz : 0 < c.sz) : Sim C γ (s.setOwn k (g + 1) (some ⟨c.ty,c.sz,c.rows.take n,c.kind⟩)) a w := by
 have hown : ∀ k' c'',((s.setOwn k (g + 1) (some ⟨c.ty,c.sz,c.rows.take n,c.kind⟩)).own k').2 = some c'' → ∃ c3,(s.own k').2 = some c3 := by
  intro k' c'' hc
  by_cases hk : k' = k
  ·subst hk;exact ⟨c,by rw [ho]⟩
  ·rw [ar hk] at hc;exact ⟨c'',hc⟩
 have hok : ∀ b',cV C γ s w b' → cV C γ (s.setOwn k (g + 1) (some ⟨c.ty,c.sz,c.rows.take n,c.kind⟩)) w b' := by
  rintro b' ⟨f1,f2,f3⟩
  exact ⟨f1,f2,fun k' c'' hc => let ⟨c3,hc3⟩ := hown k' c'' hc;f3 k' c3 hc3⟩
 have hle : (ah C γ s w).Le (ah C γ (s.setOwn k (g + 1) (some ⟨c.ty,c.sz,c.rows.take n,c.kind⟩)) w) := by
  refine ⟨hok,fun b' hb' => ⟨hb'.1,hok b' hb'.2⟩,fun b' hb' => hb'.2,fun b' _ => rfl,fun k' => ?_,fun k' l' hg hl => ?_,fun k' l' b' cur'' _ hl hb' hh' => ⟨cur'',hh',rfl⟩⟩
  ·show (s.own k').1 ≤ ((s.setOwn k (g + 1) _).own k').1
   by_cases hk : k' = k
   ·subst hk;rw [ag,ho];exact Nat.le_succ _
   ·rw [ar hk];exact Nat.le_refl _
  ·by_cases hk : k' = k
   ·subst hk
    have : ((s.setOwn k' (g + 1) (some ⟨c.ty,c.sz,c.rows.take n,c.kind⟩)).own k').1 = (s.own k').1 := hg
    rw [ag,ho] at this
    simp at this
   ·simp only [ah,ar hk] at hl
    exact ⟨l',hl,rfl,rfl,rfl,Nat.le_refl _⟩
 refine ⟨h.defers,h.size,fun r => (h.regs r).mono hle,fun k' c'' hc => ?_,fun k1 k2 c1 c2 b' e1 e2 e3 e4 => ?_,fun k' c'' b' e1 e2 => ?_,h.below,h.top,fun c v hk => (h.kept c v hk).mono hle⟩
 ·by_cases hk : k' = k
  ·subst hk
   rw [ag] at hc
   simp at hc;subst hc
   have hs := h.sites k' c (by rw [ho])
   refine ⟨fun hb => by simp [hs.emp hb],(fun b' _ hz' => by simp only at hz';omega),(fun b' _ hz' => by simp only at hz';omega),fun b' hb' _ => ?_⟩
   obtain ⟨cur,h1,h2,h3,h4,h5⟩ := hs.at_ b' hb' hz
   refine ⟨cur,h1,h2,?_,fun row hr => h4 row (List.mem_of_mem_take hr),fun i j row pv e1 e2 => ?_⟩
   ·simp only [List.length_take]
    exact Nat.le_trans (Nat.mul_le_mul_right _ (Nat.min_le_right _ _)) h3
   ·simp only [List.getElem?_take] at e1
    split at e1
    ·obtain ⟨v,f1,f2,f3⟩ := h5 i j row pv e1 e2
     exact ⟨v,f1,f2,f3.mono hle⟩
    ·cases e1
  ·rw [ar hk] at hc
   exact (h.sites k' c'' hc).mono hle fun b' hb' => rfl
 ·obtain ⟨d1,f1⟩ := hown k1 c1 e1
  obtain ⟨d2,f2⟩ := hown k2 c2 e2
  exact h.inj k1 k2 d1 d2 b' f1 f2 e3 e4
 ·obtain ⟨d1,f1⟩ := hown k' c'' e1
  exact h.base k' d1 b' f1 e2
theorem Ghost.cut {s : St} {k g t n sz kd : Nat} {T : TypeId} {rows : List (List PV)} (ho : s.own k = (g,some ⟨T,sz,rows,kd⟩)) (hr : s.reg t = .als k g 0 n) (hn : n ≤ rows.length) (hz : Nat.blt 0 sz = true) :
  Ghost s ((s.setOwn k (g + 1) (some ⟨T,sz,rows.take n,kd⟩)).putR t (.als k (g + 1) 0 n)) := by
 intro C a w hX ⟨γ,h⟩
 have hz : 0 < sz := by simpa using hz
 have h' := h.cutS (n := n) ho hz
 have hals := h.als_at (by rw [← hr];exact h.regs t) ho
 refine ⟨γ,h'.defers,h'.size,fun r => ?_,h'.sites,h'.inj,h'.base,h'.below,h'.top,h'.kept⟩
 show Rep (ah C γ (s.setOwn k (g + 1) (some ⟨T,sz,rows.take n,kd⟩)) w) (bif Nat.beq r t then _ else _) _
 by_cases hrt : r = t
 ·subst hrt
  rw [Nat.beq_refl,cond_true]
  refine .als (by simp [ah,ag]) fun _ l hl => ?_
  simp only [ah,ag,Option.map_some,Option.some.injEq] at hl
  subst hl
  rcases hals with ⟨h1,h2,h3,h4⟩ | ⟨b,cap,cur,h1,h2,h3,h4,h5,h6,h7⟩
  ·exact .inl ⟨h1,h2,h3,h4⟩
  ·exact .inr ⟨b,cap,cur,h1,h2,h3,h4,h5,h6,by simp;omega⟩
 ·rw [aU hrt,cond_false]
  exact h'.regs r
def b9 (l : List Int) : List Int := l.mergeSort fun x y => decide (x ≤ y)
def nB (l : List Int) : List Int := Lib.compact l ++ List.replicate (l.length - (Lib.compact l).length) 0
theorem ov (x : Int) : (eN x).all fU = true := rfl
theorem kJ {w : World} {b : Nat} {T : TypeId} {cur : Array Value} {l : List Int} (hh : w.heap[b]? = some (.cells cur T (0,0))) (hc : cur.toList.take (l.length * 1) = fC eN l) : Holds (Value.int .i64) w b 0 l.toArray := fun j hj => by
 have hj' : j < l.length := by simpa using hj
 have hx : l[j]? = some l[j] := List.getElem?_eq_getElem hj'
 have h1 := rK hc (iE (sz := 1) (fun _ => rfl) l j 0 l[j] (I l[j]) hx rfl)
 rw [Nat.mul_one,Nat.add_zero] at h1
 refine ⟨?_,frozen_of_row w b _ cur T hh⟩
 rw [aI hh,Nat.zero_add,← Array.getElem?_toList,h1]
 simp [hj',scv]
theorem mc (l : List Int) : fC eN l = l.map (Value.int .i64) := by
 induction l with
 |nil => rfl
 |cons x l ih => rw [fC,List.flatMap_cons,List.map_cons,← ih];rfl
theorem w9 : cX Tryz.prog 179 := ⟨_,Go.Proofs.Tryz.func179,by decide,rfl⟩
theorem w_ : cX Tryz.prog 180 := ⟨_,Go.Proofs.Tryz.func180,by decide,rfl⟩
section
variable {C : Ctx} {s : St} {d k g m kd : Nat} {ty : TypeId} {pos : String} {af : Array Edge} {x : Operand} {tys : Array TypeId} {K : St → Prop}
set_option maxRecDepth 20000 in
theorem wr (l : List Int) (hl : l.length ≤ 1000000) (hx : s.ev x = .als k g 0 m) (hm : m = l.length) (ho : s.own k = (g,some ⟨3,1,l.map eN,kd⟩))
  (h : K ((s.setOwn k g (some ⟨3,1,(b9 l).map eN,kd⟩)).putR d (.tup []))) : Sm Tryz.prog lay.get s ⟨some d,.call ⟨.value (.func 179),#[x],tys⟩,ty,pos,af,none⟩ K := by
 refine lv (enc := eN) (l := l) (sz := 1) (more := []) (mv := []) none (fun l' => l' = b9 l) ov (fun _ => rfl) (by decide) rfl hx hm ho rfl w9 (fun n h => by cases h) (fun hl0 => ?_) (fun w b cap cur hh h1 h2 hc hg => ?_) (fun l' hQ _ => ?_)
 ·subst hl0
  refine ⟨by simp [b9],fun w _ => (Tryz.slices_Sort_int_none none 0 w).mono ?_⟩
  rintro e w' ⟨rfl,rfl⟩
  exact ⟨rfl,Below.refl _ _⟩
 ·have hb : b < w.heap.size := (Array.getElem?_eq_some_iff.1 hh).1
  refine (Tryz.slices_Sort_int b 0 cap l w (kJ hh hc) hb (by omega)).mono ?_
  rintro e w' ⟨rfl,n,os,hw⟩
  have hlen : (b9 l).length = l.length := by simp [b9]
  have hchg := qP (T := 3) hh hw
  refine ⟨b9 l,_,rfl,hlen,rfl,hchg,gG _ _ _ _,?_⟩
  have := gH (Value.int .i64) (b9 l).toArray cur (by simp [hlen];omega)
  rw [List.size_toArray,hlen] at this
  rw [Nat.mul_one,mc]
  exact this
 ·subst hQ;exact h
theorem dH (l : List Int) : (Lib.compact l).length ≤ l.length := by
 rw [Lib.compact,Lib.compactUpTo,List.length_map]
 exact Nat.le_trans (List.length_filter_le _ _) (by simp)
theorem iN (l : List Int) : (nB l).length = l.length := by
 have := dH l
 simp [nB];omega
set_option maxRecDepth 20000 in
theorem oe (l : List Int) (hl : l.length ≤ 1000000) (hx : s.ev x = .als k g 0 m) (hm : m = l.length) (ho : s.own k = (g,some ⟨3,1,l.map eN,kd⟩))
  (h : K ((s.setOwn k g (some ⟨3,1,(nB l).map eN,kd⟩)).putR d (.als k g 0 (Lib.compact l).length))) : Sm Tryz.prog lay.get s ⟨some d,.call ⟨.value (.func 180),#[x],tys⟩,ty,pos,af,none⟩ K := by
 refine lv (enc := eN) (l := l) (sz := 1) (more := []) (mv := []) (some (Lib.compact l).length) (fun l' => l' = nB l) ov (fun _ => rfl) (by decide) rfl hx hm ho rfl w_ (fun n h => by cases h;exact dH l) (fun hl0 => ?_) (fun w b cap cur hh h1 h2 hc hg => ?_) (fun l' hQ _ => ?_)
 ·subst hl0
  refine ⟨rfl,fun w _ => (Tryz.slices_Compact_int_empty none 0 w).mono ?_⟩
  rintro e w' ⟨rfl,rfl⟩
  exact ⟨rfl,Below.refl _ _⟩
 ·refine (Tryz.slices_Compact_int b 0 cap l w (kJ hh hc) (by omega) h1).mono ?_
  rintro e w' ⟨rfl,q,hw⟩
  have hchg := qP (T := 3) hh (hw.trans (Go.Sort.grow_empty _).symm)
  refine ⟨nB l,_,rfl,iN l,rfl,hchg,gG _ _ _ _,?_⟩
  have := gH (Value.int .i64) (nB l).toArray cur (by simp [iN];omega)
  rw [List.size_toArray,iN] at this
  rw [Nat.mul_one,mc]
  exact this
 ·subst hQ;exact h
end
open Go.Proofs
def bw (l : List SR) : List Int := Lib.compact (b9 (l.map (·.x)))
set_option maxRecDepth 20000 in
theorem kX (l : List SR) (hl : fE l) (h12 : l.length ≤ 1000) : Ret Tryz.prog .shared 151 [.sl (l.map eS)] (.sl ((bw l).map eN)) := by
 have hml : (l.map eS).length = l.length := by simp
 have hrows : ∀ (k : Nat) x,l[k]? = some x → ((l.take (k + 1)).map (·.x)).map eN = ((l.take k).map (·.x)).map eN ++ [eN x.x] := fun k x hx => by rw [cq hx,List.map_append,List.map_append];rfl
 refine Ret.of_pwp layOk mixed Go.Proofs.Tryz.func151 rfl (by decide) rfl rfl ?_
 ((repeat (first | refine aR ?_ | refine bV ?_ | refine bR ?_ | refine bQ ?_));refine aY ?_)
 refine gy rfl trivial ?_
 ((repeat (first | refine aR ?_ | refine bV ?_ | refine bR ?_ | refine bQ ?_));refine aY ?_)
 (first | refine ay (eE 3 1 0 rfl rfl ?_) | refine ay (ez 3 1 0 rfl rfl ?_))
 repeat refine ac rfl ?_
 refine ax (fun k => k ≤ l.length) (fun k => [(3,.als 3 (k + 1) 0 (((l.take k).map (·.x)).map eN).length),(6,.sl (l.map eS)),(7,I l.length),(8,I k)]) (fun k => [(3,k + 1,⟨3,1,((l.take k).map (·.x)).map eN,0⟩)]) (fun k => l.length - k) 0 (Nat.zero_le _) ⟨rfl,rfl,by rw [← hml];rfl,rfl,rfl,trivial⟩ ?_
 intro k s hk
 repeat refine ac rfl ?_
 refine ae rfl ?_ ?_<;>intro h
 ·have hlt : k < l.length := by have := of_decide_eq_true h;omega
  clear h
  obtain ⟨x,hx⟩ := aM hlt
  have hw := f7 k
  repeat refine ac rfl ?_
  refine bm rfl rfl rfl rfl rfl rfl rfl hx rfl ?_
  repeat refine ac rfl ?_
  refine ay (bb 0 rfl rfl rfl rfl rfl rfl rfl rfl rfl rfl rfl (by repeat' constructor) rfl ?_)
  repeat refine ac rfl ?_
  refine ay (bC 0 rfl rfl rfl rfl rfl rfl rfl rfl rfl rfl rfl (by repeat' constructor) (by intro row hr;first | (simp at hr;subst hr;rfl) | simp at hr) rfl rfl (by simp;omega) (by simp;omega) ?_)
  repeat refine ac rfl ?_
  refine ⟨k + 1,hlt,by omega,?_,rfl,rfl,congrArg I hw,?_,trivial⟩
  ·rw [hrows k x hx];rfl
  ·rw [hrows k x hx];rfl
 ·have hge : k = l.length := by have := of_decide_eq_false h;omega
  subst hge
  clear h
  rw [List.take_length]
  have hal : (l.map (·.x)).length ≤ 1000000 := by simp;omega
  generalize hX : l.map (·.x) = X at *
  have hsl : (b9 X).length ≤ 1000000 := by rw [b9,List.length_mergeSort];exact hal
  ((repeat ((fail_if_success (with_reducible refine aP 7 ?_));refine cF rfl ?_));refine aE 1 ?_)
  refine ac rfl ?_
  refine aR ?_
  refine aV rfl (wr X hal rfl (by simp) rfl ?_)
  refine aJ ?_
  ((repeat ((fail_if_success (with_reducible refine aP 8 ?_));refine cF rfl ?_));refine aE 1 ?_)
  refine ac rfl ?_
  refine aR ?_
  refine aV rfl (oe (b9 X) hsl rfl (by simp [b9]) rfl ?_)
  refine aJ ?_
  refine gy rfl trivial ?_
  refine aR ?_
  refine bR ?_
  refine aB (Ghost.cut (k := 3) (t := 2) (rows := (nB (b9 X)).map eN) rfl rfl (by rw [List.length_map,iN];exact dH _) rfl) ?_
  have hc : ((nB (b9 X)).map eN).take (Lib.compact (b9 X)).length = (bw l).map eN := by
   rw [← List.map_take,nB,List.take_left,bw,hX]
  have hcl : (Lib.compact (b9 X)).length = (bw l).length := by rw [bw,hX]
  rw [hc]
  repeat refine ac rfl ?_
  exact eM rfl rfl rfl ⟨rfl,rfl,by show _ = (List.map eN (bw l)).length;rw [List.length_map,hcl]⟩ rfl
theorem p7 {l : List SR} {x : Int} (h : x ∈ bw l) : ∃ s ∈ l,s.x = x := by
 have h1 : x ∈ b9 (l.map (·.x)) := by
  rw [bw,Lib.compact,Lib.compactUpTo] at h
  obtain ⟨i,hi,rfl⟩ := List.mem_map.1 h
  have hi := (List.mem_filter.1 hi).1
  have hi : i < (b9 (l.map (·.x))).length := by simpa using hi
  have e : (b9 (l.map (·.x))).toArray[i]! = (b9 (l.map (·.x)))[i] := by simp [hi]
  rw [e]
  exact List.getElem_mem hi
 rw [b9,List.mem_mergeSort] at h1
 obtain ⟨s,hs,rfl⟩ := List.mem_map.1 h1
 exact ⟨s,hs,rfl⟩
theorem ek {l : List SR} (hc : br l = 0) {x : Int} (h : x ∈ bw l) : -1000000 ≤ x ∧ x ≤ 1000000 := by
 obtain ⟨s,hs,rfl⟩ := p7 h
 rw [br] at hc
 split at hc
 ·omega
 ·have := gU hc s hs
  rw [dL] at this
  split at this
  ·omega
  ·rename_i h1
   omega
theorem fj (l : List SR) : (bw l).length ≤ l.length := by
 have := dH (b9 (l.map (·.x)))
 rw [bw]
 simp [b9] at this ⊢
 exact this
def jS (x : Int) : AR := ⟨ofQ ((-x : Int) : Rat),ofQ ((1 : Int) : Rat)⟩
def uu (x : Int) : AR := ⟨ofQ (x : Rat),ofQ ((-1 : Int) : Rat)⟩
def cG (l : List SR) : List AR := (bw l).map jS ++ (bw l).map uu
set_option maxRecDepth 20000 in
theorem pt (l : List SR) (hl : fE l) (h12 : l.length ≤ 1000) (hck : br l = 0) : Ret Tryz.prog .shared 94 [.sl (l.map eS)] (.sl ((cG l).map eA)) := by
 have hp := kX l hl h12
 have hrg : ∀ x ∈ bw l,-1000000 ≤ x ∧ x ≤ 1000000 := fun x hx => ek hck hx
 have hpl := fj l
 have w1 := aS 1 ⟨by decide,by decide⟩
 have w2 := aS (-1) ⟨by decide,by decide⟩
 rw [cG]
 generalize bw l = Pl at *
 have hml : (Pl.map eN).length = Pl.length := by simp
 have hrows : ∀ (k : Nat) x,Pl[k]? = some x → ((Pl.take (k + 1)).map jS).map eA = ((Pl.take k).map jS).map eA ++ [eA (jS x)] := fun k x hx => by rw [cq hx,List.map_append,List.map_append];rfl
 have hrows2 : ∀ (k : Nat) x,Pl[k]? = some x → (Pl.map jS ++ (Pl.take (k + 1)).map uu).map eA = (Pl.map jS ++ (Pl.take k).map uu).map eA ++ [eA (uu x)] := fun k x hx => by rw [cq hx];simp [List.map_append]
 refine Ret.of_pwp layOk mixed Go.Proofs.Tryz.func94 rfl (by decide) rfl rfl ?_
 ((repeat (first | refine aR ?_ | refine bV ?_ | refine bR ?_ | refine bQ ?_));refine aY ?_)
 refine gy rfl trivial ?_
 ((repeat (first | refine aR ?_ | refine bV ?_ | refine bR ?_ | refine bQ ?_));refine aY ?_)
 (first | refine ay (eE 62 8 1 rfl rfl ?_) | refine ay (ez 62 8 1 rfl rfl ?_))
 repeat refine ac rfl ?_
 refine aq rfl rfl rfl hp rfl rfl ?_
 repeat refine ac rfl ?_
 refine ax (fun k => k ≤ Pl.length) (fun k => [(0,.sl (l.map eS)),(3,.als 3 (k + 1) 0 (((Pl.take k).map jS).map eA).length),(9,.sl (Pl.map eN)),(10,I Pl.length),(11,I k)]) (fun k => [(3,k + 1,⟨62,8,((Pl.take k).map jS).map eA,1⟩)]) (fun k => Pl.length - k) 0 (Nat.zero_le _) ⟨rfl,rfl,rfl,by rw [← hml];rfl,rfl,rfl,trivial⟩ ?_
 intro k s hk
 repeat refine ac rfl ?_
 refine ae rfl ?_ ?_<;>intro h
 ·have hlt : k < Pl.length := by have := of_decide_eq_true h;omega
  clear h
  obtain ⟨x,hx⟩ := aM hlt
  have hr := hrg x (List.mem_of_getElem? hx)
  have hnx := aS (-x) ⟨by omega,by omega⟩
  have hw := f7 k
  have hn : IntKind.i64.wrap (0 - x) = -x := by rw [wrap_i64 (by omega) (by omega)];omega
  repeat refine ac rfl ?_
  refine bm rfl rfl rfl rfl rfl rfl rfl hx rfl ?_
  repeat refine ac rfl ?_
  rw [hn]
  refine aq rfl rfl rfl hnx rfl rfl ?_
  repeat refine ac rfl ?_
  refine aq rfl rfl rfl w1 rfl rfl ?_
  repeat refine ac rfl ?_
  refine ay (bb 1 rfl rfl rfl rfl rfl rfl rfl rfl rfl rfl rfl (by repeat' constructor) rfl ?_)
  repeat refine ac rfl ?_
  refine ay (bC 1 rfl rfl rfl rfl rfl rfl rfl rfl rfl rfl rfl (by repeat' constructor) (by intro row hr;first | (simp at hr;subst hr;rfl) | simp at hr) rfl rfl (by simp;omega) (by simp;omega) ?_)
  repeat refine ac rfl ?_
  refine ⟨k + 1,hlt,by omega,rfl,?_,rfl,rfl,congrArg I hw,?_,trivial⟩
  ·rw [hrows k x hx];rfl
  ·rw [hrows k x hx];rfl
 ·have hge : k = Pl.length := by have := of_decide_eq_false h;omega
  subst hge
  clear h
  rw [List.take_length]
  repeat refine ac rfl ?_
  refine aq rfl rfl rfl hp rfl rfl ?_
  repeat refine ac rfl ?_
  refine ax (fun k => k ≤ Pl.length) (fun k => [(3,.als 3 (Pl.length + k + 1) 0 ((Pl.map jS ++ (Pl.take k).map uu).map eA).length),(25,.sl (Pl.map eN)),(26,I Pl.length),(27,I k)]) (fun k => [(3,Pl.length + k + 1,⟨62,8,(Pl.map jS ++ (Pl.take k).map uu).map eA,1⟩)]) (fun k => Pl.length - k) 0 (Nat.zero_le _) ⟨by rw [List.take_zero,List.map_nil,List.append_nil];rfl,rfl,by rw [← hml];rfl,rfl,by rw [List.take_zero,List.map_nil,List.append_nil];rfl,trivial⟩ ?_
  intro k s hk
  repeat refine ac rfl ?_
  refine ae rfl ?_ ?_<;>intro h
  ·have hlt : k < Pl.length := by have := of_decide_eq_true h;omega
   clear h
   obtain ⟨x,hx⟩ := aM hlt
   have hr := hrg x (List.mem_of_getElem? hx)
   have hnx := aS x ⟨by omega,by omega⟩
   have hw := f7 k
   repeat refine ac rfl ?_
   refine bm rfl rfl rfl rfl rfl rfl rfl hx rfl ?_
   repeat refine ac rfl ?_
   refine aq rfl rfl rfl hnx rfl rfl ?_
   repeat refine ac rfl ?_
   refine aq rfl rfl rfl w2 rfl rfl ?_
   repeat refine ac rfl ?_
   refine ay (bb 1 rfl rfl rfl rfl rfl rfl rfl rfl rfl rfl rfl (by repeat' constructor) rfl ?_)
   repeat refine ac rfl ?_
   refine ay (bC 1 rfl rfl rfl rfl rfl rfl rfl rfl rfl rfl rfl (by repeat' constructor) (by intro row hr;first | (simp at hr;subst hr;rfl) | simp at hr) rfl rfl (by simp;omega) (by simp;omega) ?_)
   repeat refine ac rfl ?_
   refine ⟨k + 1,hlt,by omega,?_,rfl,rfl,congrArg I hw,?_,trivial⟩
   ·rw [hrows2 k x hx];rfl
   ·rw [hrows2 k x hx];rfl
  ·have hge : k = Pl.length := by have := of_decide_eq_false h;omega
   subst hge
   clear h
   rw [List.take_length]
   repeat refine ac rfl ?_
   exact eM rfl rfl rfl (by repeat' constructor) rfl
def cN : AR := ⟨ofQ ((1 : Int) : Rat),ofQ ((0 : Int) : Rat)⟩
noncomputable def gz (b : BR) (r : AR) : Bool := ld b r.z.val r.t.val
noncomputable def eV (b : BR) : PV := if gz b cN = true then .tup [.agg (eA cN),I 12] else match (cG b.l).find? (gz b) with
 |some r => .tup [.agg (eA r),I 13]
 |none => .tup [.agg (zN ++ zN),I 0]
theorem vI {z : Int} (h : i64 z) : Vq (ofQ (z : Rat)) ((ofQ (z : Rat)).val) 4 := by
 have hz : Zb z := aN h.1 h.2
 have := Vq.ofQ (h := HQ.int (z := z))
 rw [ofQ_val]
 exact this
theorem rM {l : List SR} (hck : br l = 0) {r : AR} (h : r ∈ cG l) : Va r r.z.val r.t.val 4 4 := by
 rw [cG,List.mem_append] at h
 rcases h with h | h
 ·obtain ⟨x,hx,rfl⟩ := List.mem_map.1 h
  have := ek hck hx
  exact ⟨vI ⟨by omega,by omega⟩,vI ⟨by decide,by decide⟩⟩
 ·obtain ⟨x,hx,rfl⟩ := List.mem_map.1 h
  have := ek hck hx
  exact ⟨vI ⟨by omega,by omega⟩,vI ⟨by decide,by decide⟩⟩
theorem qW : Va cN cN.z.val cN.t.val 4 4 := ⟨vI ⟨by decide,by decide⟩,vI ⟨by decide,by decide⟩⟩
theorem sw {α : Type} (p : α → Bool) {l : List α} {i : Nat} {x : α} (h : l[i]? = some x) : (l.drop i).find? p = if p x = true then some x else (l.drop (i + 1)).find? p := by
 obtain ⟨hl,rfl⟩ := List.getElem?_eq_some_iff.1 h
 rw [List.drop_eq_getElem_cons hl,List.find?_cons]
 cases p l[i] <;> simp
set_option maxRecDepth 20000 in
theorem jM (b : BR) (hb : b.Ok) : Ret Tryz.prog .shared 93 [.agg (eB b)] (eV b) := by
 have w1 := aS 1 ⟨by decide,by decide⟩
 have w0 := aS 0 ⟨by decide,by decide⟩
 have hd := jN b hb cN qW (by decide) (by decide)
 have ht := pt b.l hb.lim.l (by have := hb.few.1;omega) hb.chkL
 have hva : ∀ r ∈ cG b.l,Ret Tryz.prog .shared 116 [.agg (eB b),.agg (eA r)] (.bool (gz b r)) := fun r hr => jN b hb r (rM hb.chkL hr) (by decide) (by decide)
 rw [show ld b cN.z.val cN.t.val = gz b cN from rfl] at hd
 have htl : (cG b.l).length ≤ 1000 := by
  have := fj b.l
  have := hb.few.1
  rw [cG];simp;omega
 generalize hR : eV b = R
 rw [eV] at hR
 generalize cG b.l = T at *
 have hml : (T.map eA).length = T.length := by simp
 generalize hfn : gz b = fn at *
 clear hfn
 obtain ⟨w,ba,l⟩ := b
 simp only at *
 rw [cN] at *
 by_cases h1 : fn ⟨ofQ ((1 : Int) : Rat),ofQ ((0 : Int) : Rat)⟩ = true
 ·rw [if_pos h1] at hR
  rw [h1] at hd
  subst hR
  refine Ret.of_pwp layOk mixed Go.Proofs.Tryz.func93 rfl (by decide) rfl rfl ?_
  repeat refine ac rfl ?_
  refine aq rfl rfl rfl w1 rfl rfl ?_
  repeat refine ac rfl ?_
  refine aq rfl rfl rfl w0 rfl rfl ?_
  repeat refine ac rfl ?_
  refine aT rfl rfl rfl hd rfl rfl rfl ?_
  repeat refine ac rfl ?_
  exact aF rfl rfl rfl
 ·rw [if_neg h1] at hR
  rw [Bool.not_eq_true] at h1
  rw [h1] at hd
  refine Ret.of_pwp layOk mixed Go.Proofs.Tryz.func93 rfl (by decide) rfl rfl ?_
  repeat refine ac rfl ?_
  refine aq rfl rfl rfl w1 rfl rfl ?_
  repeat refine ac rfl ?_
  refine aq rfl rfl rfl w0 rfl rfl ?_
  repeat refine ac rfl ?_
  refine aT rfl rfl rfl hd rfl rfl rfl ?_
  repeat refine ac rfl ?_
  refine aq rfl rfl rfl ht rfl rfl ?_
  repeat refine ac rfl ?_
  refine ax (fun i => i ≤ T.length ∧ (T.drop i).find? fn = T.find? fn) (fun i => [(1,.ptr 1 1 0 0),(2,.ptr 2 1 0 0),(16,.sl (T.map eA)),(17,I T.length),(18,I (i : Nat))]) (fun i => [(1,1,⟨29,6,[eB ⟨w,ba,l⟩],2⟩),(2,1,⟨62,8,[zN ++ zN],2⟩)]) (fun i => T.length - i) 0 ⟨Nat.zero_le _,by rw [List.drop_zero]⟩ ⟨rfl,rfl,rfl,by rw [← hml];rfl,rfl,rfl,rfl,trivial⟩ ?_
  intro i s ⟨hi,hF⟩
  repeat refine ac rfl ?_
  refine ae rfl ?_ ?_<;>intro h
  ·have hlt : i < T.length := by have := of_decide_eq_true h;omega
   clear h
   obtain ⟨r,hr⟩ := aM hlt
   have hrr := hva r (List.mem_of_getElem? hr)
   have hw := f7 i
   rw [sw fn hr] at hF
   cases hfr : fn r with
   |true =>
    rw [hfr] at hrr
    rw [if_pos hfr] at hF
    rw [← hF] at hR
    simp only at hR
    subst hR
    repeat refine ac rfl ?_
    refine bm rfl rfl rfl rfl rfl rfl rfl hr rfl ?_
    repeat refine ac rfl ?_
    refine aT rfl rfl rfl hrr rfl rfl rfl ?_
    repeat refine ac rfl ?_
    exact aF rfl rfl rfl
   |false =>
    rw [hfr] at hrr
    rw [if_neg (by rw [hfr];decide)] at hF
    repeat refine ac rfl ?_
    refine bm rfl rfl rfl rfl rfl rfl rfl hr rfl ?_
    repeat refine ac rfl ?_
    refine aT rfl rfl rfl hrr rfl rfl rfl ?_
    repeat refine ac rfl ?_
    exact ⟨i + 1,⟨by omega,hF⟩,by omega,rfl,rfl,rfl,rfl,congrArg I hw,rfl,rfl,trivial⟩
  ·have hie : i = T.length := by have := of_decide_eq_false h;omega
   clear h
   rw [hie,List.drop_length,List.find?_nil] at hF
   rw [← hF] at hR
   simp only at hR
   subst hR
   repeat refine ac rfl ?_
   exact aF rfl rfl rfl
def kY {α : Type} (d : α → Rat) (l : List α) (x : α) : Nat → Nat
 |0 => 0
 |k + 1 => match l[k]? with
  |some y => if d x < d y then kY d l x k else k + 1
  |none => kY d l x k
def vq {α : Type} (d : α → Rat) (l : List α) (x : α) : Nat := kY d l x l.length
def bS {α : Type} (l : List α) (x : α) (k : Nat) : List α := l.take k ++ x :: l.drop k
def lO {α : Type} (d : α → Rat) (l : List α) (x : α) : List α := bS l x (vq d l x)
def cU {α : Type} (d : α → Rat) (l : List α) : List α := l.foldl (lO d) []
theorem rl {α : Type} {d : α → Rat} {l : List α} {x : α} {j : Nat} (h2 : j = 0 ∨ ∃ y,l[j - 1]? = some y ∧ d y ≤ d x) : ∀ k,j ≤ k → k ≤ l.length → (∀ q y,j ≤ q → q < k → l[q]? = some y → d x < d y) → kY d l x k = j
 |0,hk,_,_ => by rw [kY];omega
 |k + 1,hk,hl,h1 => by
  obtain ⟨y,hy⟩ : ∃ y,l[k]? = some y := ⟨l[k],List.getElem?_eq_getElem (by omega)⟩
  rw [kY,hy]
  dsimp only
  by_cases he : j = k + 1
  ·subst he
   rcases h2 with h2 | ⟨z,hz,hd⟩
   ·omega
   ·rw [Nat.add_sub_cancel,hy] at hz
    cases hz
    rw [if_neg (by grind)]
  ·rw [if_pos (h1 k y (by omega) (by omega) hy)]
   exact rl h2 k (by omega) (by omega) fun q z hq hq2 => h1 q z hq (by omega)
theorem rm {α : Type} {d : α → Rat} {l : List α} {x : α} {j : Nat} (hj : j ≤ l.length) (h1 : ∀ q y,j ≤ q → l[q]? = some y → d x < d y) (h2 : j = 0 ∨ ∃ y,l[j - 1]? = some y ∧ d y ≤ d x) : vq d l x = j :=
 rl h2 _ hj (Nat.le_refl _) fun q y hq _ => h1 q y hq
theorem sG {α : Type} (d : α → Rat) (l : List α) (x : α) : (lO d l x).Perm (x :: l) := by
 rw [lO,bS]
 exact List.perm_middle.trans (by rw [List.take_append_drop])
theorem ly {α : Type} (d : α → Rat) (l : List α) (x : α) : cU d (l ++ [x]) = lO d (cU d l) x := by
 rw [cU,List.foldl_append];rfl
theorem fw {α : Type} (d : α → Rat) (l : List α) : (cU d l).Perm l := by
 have : ∀ (l acc : List α),(l.foldl (lO d) acc).Perm (acc ++ l) := by
  intro l
  induction l with
  |nil => intro acc;simp
  |cons x l ih =>
   intro acc
   rw [List.foldl_cons]
   refine (ih _).trans (((sG d acc x).append_right l).trans ?_)
   rw [List.cons_append]
   exact List.perm_middle.symm
 exact this l []
theorem jr {α : Type} (d : α → Rat) (l : List α) : (cU d l).length = l.length := (fw d l).length_eq
theorem oE {α : Type} {l : List α} {x : α} {k : Nat} (hk : k ≤ l.length) : (bS l x k)[k]? = some x := by
 rw [bS,List.getElem?_append_right (by simp;omega)]
 simp [Nat.min_eq_left hk]
theorem kN {α : Type} {l : List α} {x : α} {k q : Nat} (hk : k ≤ l.length) (h : q < k) : (bS l x k)[q]? = l[q]? := by
 rw [bS,List.getElem?_append_left (by simp;omega),List.getElem?_take,if_pos h]
theorem pT {α : Type} {l : List α} {x y : α} {k : Nat} (hk : k + 1 ≤ l.length) (hy : l[k]? = some y) : ((bS l x (k + 1)).set (k + 1) y).set k x = bS l x k := by
 obtain ⟨hlt,rfl⟩ := List.getElem?_eq_some_iff.1 hy
 apply List.ext_getElem?
 intro q
 have hl1 : (bS l x (k + 1)).length = l.length + 1 := by simp [bS];omega
 simp only [List.getElem?_set,List.length_set,hl1]
 by_cases h1 : k = q
 ·subst h1
  rw [if_pos rfl,if_pos (by omega),oE (by omega)]
 ·rw [if_neg h1]
  by_cases h2 : k + 1 = q
  ·subst h2
   rw [if_pos rfl,if_pos (by omega),bS,List.getElem?_append_right (by simp;omega)]
   simp only [List.length_take,Nat.min_eq_left (show k ≤ l.length by omega),Nat.add_sub_cancel_left,List.getElem?_cons_succ,List.getElem?_drop,Nat.add_zero]
   exact (List.getElem?_eq_getElem hlt).symm
  ·rw [if_neg h2]
   rcases Nat.lt_or_ge q k with h | h
   ·rw [kN (by omega) h,kN hk (by omega)]
   ·rw [bS,bS,List.getElem?_append_right (by simp;omega),List.getElem?_append_right (by simp;omega)]
    simp only [List.length_take,Nat.min_eq_left hk,Nat.min_eq_left (show k ≤ l.length by omega)]
    obtain ⟨r,rfl⟩ : ∃ r,q = k + 2 + r := ⟨q - (k + 2),by omega⟩
    rw [show k + 2 + r - (k + 1) = r + 1 by omega,show k + 2 + r - k = r + 1 + 1 by omega,List.getElem?_cons_succ,List.getElem?_cons_succ,List.getElem?_drop,List.getElem?_drop]
    congr 1;omega
theorem mz {α : Type} (d : α → Rat) (l : List α) (x : α) : ∀ k,k ≤ l.length → (kY d l x k = 0 ∨ ∃ y,l[kY d l x k - 1]? = some y ∧ d y ≤ d x) ∧ ∀ q y,kY d l x k ≤ q → q < k → l[q]? = some y → d x < d y
 |0,_ => ⟨.inl rfl,fun q y _ hq => by omega⟩
 |k + 1,hk => by
  obtain ⟨y,hy⟩ : ∃ y,l[k]? = some y := ⟨l[k],List.getElem?_eq_getElem (by omega)⟩
  obtain ⟨h1,h2⟩ := mz d l x k (by omega)
  rw [kY,hy]
  dsimp only
  split
  ·rename_i hlt
   refine ⟨h1,fun q z hq hqk hz => ?_⟩
   by_cases he : q = k
   ·subst he;rw [hy] at hz;cases hz;exact hlt
   ·exact h2 q z hq (by omega) hz
  ·rename_i hlt
   exact ⟨.inr ⟨y,by rw [Nat.add_sub_cancel];exact hy,by grind⟩,fun q z hq hqk => by omega⟩
theorem oF {α : Type} {d : α → Rat} {l : List α} (x : α) (h : l.Pairwise fun a b => d a ≤ d b) : (lO d l x).Pairwise fun a b => d a ≤ d b := by
 obtain ⟨h1,h2⟩ := mz d l x l.length (Nat.le_refl _)
 rw [lO,bS,vq]
 generalize kY d l x l.length = k at *
 have hbefore : ∀ a ∈ l.take k,d a ≤ d x := by
  intro a ha
  rcases h1 with h1 | ⟨y,hy,hyx⟩
  ·subst h1;simp at ha
  ·obtain ⟨i,hi,rfl⟩ := List.getElem_of_mem ha
   have hi' : i < k := by simp at hi;omega
   have hil : i < l.length := by simp at hi;omega
   obtain ⟨hk1,hk2⟩ := List.getElem?_eq_some_iff.1 hy
   rw [List.getElem_take]
   by_cases he : i = k - 1
   ·subst he;rw [hk2];exact hyx
   ·have := List.pairwise_iff_getElem.1 h i (k - 1) hil hk1 (by omega)
    rw [hk2] at this
    grind
 have hbehind : ∀ a ∈ l.drop k,d x ≤ d a := by
  intro a ha
  obtain ⟨i,hi,rfl⟩ := List.getElem_of_mem ha
  have hil : k + i < l.length := by simp at hi;omega
  have := h2 (k + i) l[k + i] (by omega) hil (List.getElem?_eq_getElem hil)
  rw [List.getElem_drop]
  grind
 refine List.pairwise_append.2 ⟨h.sublist (List.take_sublist _ _),List.pairwise_cons.2 ⟨hbehind,h.sublist (List.drop_sublist _ _)⟩,fun a ha b hb => ?_⟩
 rcases List.mem_cons.1 hb with rfl | hb
 ·exact hbefore a ha
 ·have := hbefore a ha
  have := hbehind b hb
  grind
theorem nU {α : Type} (d : α → Rat) (l : List α) : (cU d l).Pairwise fun a b => d a ≤ d b := by
 have : ∀ (l acc : List α),acc.Pairwise (fun a b => d a ≤ d b) → (l.foldl (lO d) acc).Pairwise fun a b => d a ≤ d b := by
  intro l
  induction l with
  |nil => intro acc h;exact h
  |cons x l ih => intro acc h;exact ih _ (oF x h)
 exact this l [] .nil
theorem eP {L : Lay} {fn : Func} {K : St → PV → Prop} {s : St} (h : fn.results.toList = []) (hk : K s (.tup [])) : ai L fn K .normal s := by
 unfold ai
 exact ⟨[],True,by rw [h];rfl,trivial,hk⟩
structure BN where
 at' : RR
 up : RR
def dg (b : BN) : List PV := eR b.at' ++ eR b.up
def gA (b : BN) : Rat := b.at'.val
theorem ug {p q : BN} (h1 : p.at'.sz 7000000) (h2 : q.at'.sz 7000000) : Ret Tryz.prog .shared 205 [.agg (dg p),.agg (dg q)] (I (sgn (gA p - gA q))) := by
 have hc := nf p.at' q.at' (hx := h1.v) (hy := h2.v) (by decide) (by decide)
 rw [show p.at'.val - q.at'.val = gA p - gA q from rfl] at hc
 generalize sgn (gA p - gA q) = g at *
 obtain ⟨pa,pu⟩ := p
 obtain ⟨qa,qu⟩ := q
 simp only at *
 refine Ret.of_pwp layOk mixed Go.Proofs.Tryz.func205 rfl (by decide) rfl rfl ?_
 repeat refine ac rfl ?_
 refine aT rfl rfl rfl hc rfl rfl rfl ?_
 repeat refine ac rfl ?_
 exact aO rfl rfl rfl
set_option maxRecDepth 20000 in
theorem zn {K : St → Prop} {s : St} {d g : Nat} {x y z c : Operand} {tys : Array TypeId} {ty : TypeId} {pos : String} {af : Array Edge} (l : List BN) (hl : l.length ≤ 1000)
  (hx : s.ev x = .als 5 g 0 (l.map dg).length) (hy : s.ev y = I 0) (hz : s.ev z = I l.length) (hc : s.ev c = .clo 205 [])
  (hd : ∀ p ∈ l,p.at'.sz 7000000)
  (ho : FitO s [(5,g,⟨206,8,l.map dg,1⟩)])
  (hK : ∀ s1 : St,K (({ reg := s.reg,own := (s1.over [] [(5,g,⟨206,8,(cU gA l).map dg,1⟩)]).own } : St).putR d (.tup []))) :
  Sm Tryz.prog lay.get s ⟨some d,.call ⟨.value (.func 226),#[x,y,z,c],tys⟩,ty,pos,af,none⟩ K := by
 refine bX layOk rfl rfl Tryz.func226 rfl (by decide) rfl rfl ?_
 show PWP _ _ _ _ (bF s (([x,y,z,c] : List Operand).map s.ev ++ []))
 rw [show (([x,y,z,c] : List Operand).map s.ev ++ ([] : List PV)) = [.als 5 g 0 (l.map dg).length,I 0,I l.length,.clo 205 []] by simp [hx,hy,hz,hc]]
 rw [show bF s [.als 5 g 0 (l.map dg).length,I 0,I l.length,.clo 205 []] = bF (s.over [] [(5,g,⟨206,8,l.map dg,1⟩)]) [.als 5 g 0 (l.map dg).length,I 0,I l.length,.clo 205 []] by rw [Fit.over (l := []) ho]]
 have hen : (l.map dg).length = l.length := by rw [List.length_map]
 have h1s : cU gA (l.take 1) ++ l.drop 1 = l := by
  cases l with
  |nil => rfl
  |cons x r => rfl
 repeat refine ac rfl ?_
 refine ax (fun i => 1 ≤ i ∧ (i ≤ l.length ∨ i = 1)) (fun i => [(0,.als 5 g 0 (l.map dg).length),(1,I 0),(2,I l.length),(3,.clo 205 []),(8,I i)])
  (fun i => [(5,g,⟨206,8,(cU gA (l.take i) ++ l.drop i).map dg,1⟩)]) (fun i => l.length + 1 - i) 1 ⟨Nat.le_refl _,.inr rfl⟩ ⟨rfl,rfl,rfl,rfl,rfl,by rw [h1s];rfl,trivial⟩ ?_
 rintro i s1 ⟨hi1,hi⟩
 repeat refine ac rfl ?_
 refine ae rfl ?_ ?_<;>intro h
 ·have hlt : i < l.length := by have := of_decide_eq_true h;omega
  clear h
  obtain ⟨p,hp⟩ := aM hlt
  have hx0 := hp
  have htk : l.take (i + 1) = l.take i ++ [p] := cq hx0
  have hdr : l.drop i = p :: l.drop (i + 1) := by
   obtain ⟨hl1,h2⟩ := List.getElem?_eq_some_iff.1 hx0
   rw [List.drop_eq_getElem_cons hl1,h2]
  generalize hP : cU gA (l.take i) = P at *
  have hPl : P.length = i := by rw [← hP,jr,List.length_take];omega
  have hstart : P ++ l.drop i = bS P p i ++ l.drop (i + 1) := by
   have hti : P.take i = P := List.take_of_length_le (by omega)
   have hdi : P.drop i = [] := List.drop_eq_nil_of_le (by omega)
   rw [hdr,bS,hti,hdi];simp
  repeat refine ac rfl ?_
  refine ax (fun j => j ≤ i ∧ ∀ q y,j ≤ q → P[q]? = some y → gA p < gA y) (fun j => [(0,.als 5 g 0 (l.map dg).length),(1,I 0),(2,I l.length),(3,.clo 205 []),(8,I i),(9,I j)])
   (fun j => [(5,g,⟨206,8,(bS P p j ++ l.drop (i + 1)).map dg,1⟩)]) (fun j => j) i ⟨Nat.le_refl _,fun q y hq hy => by rw [List.getElem?_eq_none (by omega)] at hy;cases hy⟩ ⟨rfl,rfl,rfl,rfl,rfl,rfl,by rw [hstart];rfl,trivial⟩ ?_
  rintro j s2 ⟨hj,hpre⟩
  repeat refine ac rfl ?_
  refine am 17 [18,19,20,21,22,23,24,25,26,27,28,29,30,31,32,33,34] (by decide +kernel) ?_
  repeat refine ac rfl ?_
  refine cb rfl rfl rfl ?_ ?_<;>intro h
  ·have hj0 : 0 < j := by have := of_decide_eq_true h;omega
   clear h
   obtain ⟨k,rfl⟩ : ∃ k,j = k + 1 := ⟨j - 1,by omega⟩
   have hrow : ((bS P p (k + 1) ++ l.drop (i + 1)).map dg)[k + 1]? = some (dg p) := by
    rw [List.getElem?_map,List.getElem?_append_left (by simp [bS];omega),oE (by omega)];rfl
   obtain ⟨y,hy1⟩ := aM (show k < P.length by omega)
   have hrow2 : ((bS P p (k + 1) ++ l.drop (i + 1)).map dg)[k]? = some (dg y) := by
    rw [List.getElem?_map,List.getElem?_append_left (by simp [bS];omega),kN (by omega) (by omega),hy1];rfl
   have hym : y ∈ l := List.mem_of_mem_take ((fw gA _).mem_iff.1 (hP ▸ List.mem_of_getElem? hy1))
   have hw1 : IntKind.i64.wrap (((k + 1 : Nat) : Int) - 1) = (k : Nat) := by rw [wrap_i64 (by omega) (by omega)];omega
   repeat refine ac rfl ?_
   refine bx rfl rfl (bc rfl rfl rfl rfl rfl rfl rfl (by omega) (by rw [hen];omega)) ?_
   rw [Int.toNat_natCast,Nat.zero_add (k + 1)]
   refine bx rfl rfl (di rfl rfl rfl hrow rfl) ?_
   repeat refine ac rfl ?_
   rw [hw1]
   refine bx rfl rfl (bc rfl rfl rfl rfl rfl rfl rfl (by omega) (by rw [hen];omega)) ?_
   rw [Int.toNat_natCast,Nat.zero_add k]
   refine bx rfl rfl (di rfl rfl rfl hrow2 rfl) ?_
   repeat refine ac rfl ?_
   refine aT rfl rfl rfl (ug (hd p (List.mem_of_getElem? hp)) (hd y hym)) rfl rfl rfl ?_
   repeat refine ac rfl ?_
   refine ae rfl ?_ ?_<;>intro h
   ·have hlt2 : gA p < gA y := by have := (d9 _).1 (of_decide_eq_true h);grind
    clear h
    repeat refine ac rfl ?_
    refine aZ 15 0 [37,38,39,40,41,42,43,44,45,46,47,48,49,50,51] [2,3,4] (by decide +kernel) rfl ?_
    repeat refine ac rfl ?_
    rw [hw1]
    refine bx rfl rfl (bc rfl rfl rfl rfl rfl rfl rfl (by omega) (by rw [hen];omega)) ?_
    rw [Int.toNat_natCast,Nat.zero_add k]
    refine bx rfl rfl (di rfl rfl rfl hrow2 rfl) ?_
    repeat refine ac rfl ?_
    refine bx rfl rfl (bc rfl rfl rfl rfl rfl rfl rfl (by omega) (by rw [hen];omega)) ?_
    rw [Int.toNat_natCast,Nat.zero_add (k + 1)]
    refine bx rfl rfl (di rfl rfl rfl hrow rfl) ?_
    repeat refine ac rfl ?_
    refine bx rfl rfl (bc rfl rfl rfl rfl rfl rfl rfl (by omega) (by rw [hen];omega)) ?_
    rw [Int.toNat_natCast,Nat.zero_add (k + 1)]
    repeat refine ac rfl ?_
    refine bJ (bI (kd' := 1) rfl rfl rfl hrow rfl rfl (by repeat' constructor) rfl rfl rfl rfl ?_)
    refine bx rfl rfl (bc rfl rfl rfl rfl rfl rfl rfl (by omega) (by rw [hen];omega)) ?_
    rw [Int.toNat_natCast,Nat.zero_add k]
    refine bJ (bI (kd' := 1) rfl rfl rfl (row := dg y) (by
     show (((bS P p (k + 1) ++ l.drop (i + 1)).map dg).set (k + 1) _)[k]? = _
     rw [List.getElem?_set_ne (by omega)];exact hrow2) rfl rfl (by repeat' constructor) rfl rfl rfl rfl ?_)
    repeat refine ac rfl ?_
    refine ⟨k,⟨by omega,fun q z hq hz => ?_⟩,by omega,rfl,rfl,rfl,rfl,rfl,?_,?_,trivial⟩
    ·by_cases hqk : q = k
     ·subst hqk;rw [hy1] at hz;cases hz;exact hlt2
     ·exact hpre q z (by omega) hz
    ·exact congrArg I hw1
    ·refine Eq.trans (b := (g,some (Cont.mk 206 8 ((((bS P p (k + 1) ++ l.drop (i + 1)).map dg).set (k + 1) (dg y)).set k (dg p)) 1))) rfl ?_
     rw [← List.map_set,← List.map_set,List.set_append_left _ _ (by simp [bS];omega),List.set_append_left _ _ (by simp [bS];omega),pT (by omega) hy1]
   ·have hge2 : gA y ≤ gA p := by
     have h9 := of_decide_eq_false h
     rw [d9] at h9
     grind
    clear h
    have hpos : vq gA P p = k + 1 := rm (by omega) hpre (.inr ⟨y,hy1,hge2⟩)
    have hins : cU gA (l.take (i + 1)) = bS P p (k + 1) := by rw [htk,ly,hP,lO,hpos]
    repeat refine ac rfl ?_
    refine ⟨i + 1,⟨by omega,.inl (by omega)⟩,by omega,rfl,rfl,rfl,rfl,bG (by omega) (by omega),?_,trivial⟩
    rw [hins];rfl
  ·have hj0 : j = 0 := by have := of_decide_eq_false h;omega
   subst hj0
   clear h
   have hpos : vq gA P p = 0 := rm (by omega) hpre (.inl rfl)
   have hins : cU gA (l.take (i + 1)) = bS P p 0 := by rw [htk,ly,hP,lO,hpos]
   repeat refine ac rfl ?_
   refine ⟨i + 1,⟨by omega,.inl (by omega)⟩,by omega,rfl,rfl,rfl,rfl,bG (by omega) (by omega),?_,trivial⟩
   rw [hins];rfl
 ·have hge : l.length ≤ i := by have := of_decide_eq_false h;omega
  have hend : cU gA (l.take i) ++ l.drop i = cU gA l := by
   rw [List.take_of_length_le hge,List.drop_eq_nil_of_le hge,List.append_nil]
  rw [hend]
  repeat refine ac rfl ?_
  exact eP rfl (hK s1)
set_option maxRecDepth 20000 in
theorem qz {K : St → Prop} {s : St} {d g : Nat} {x z c : Operand} {tys : Array TypeId} {ty : TypeId} {pos : String} {af : Array Edge} (l : List BN) (hl : l.length ≤ 19)
  (hx : s.ev x = .als 5 g 0 (l.map dg).length) (hz : s.ev z = I l.length) (hc : s.ev c = .clo 205 [])
  (hd : ∀ p ∈ l,p.at'.sz 7000000)
  (ho : FitO s [(5,g,⟨206,8,l.map dg,1⟩)])
  (hK : ∀ s1 : St,K (({ reg := s.reg,own := (s1.over [] [(5,g,⟨206,8,(cU gA l).map dg,1⟩)]).own } : St).putR d (.tup []))) :
  Sm Tryz.prog lay.get s ⟨some d,.call ⟨.value (.func 219),#[x,z,c],tys⟩,ty,pos,af,none⟩ K := by
 refine bX layOk rfl rfl Tryz.func219 rfl (by decide) rfl rfl ?_
 show PWP _ _ _ _ (bF s (([x,z,c] : List Operand).map s.ev ++ []))
 rw [show (([x,z,c] : List Operand).map s.ev ++ ([] : List PV)) = [.als 5 g 0 (l.map dg).length,I l.length,.clo 205 []] by simp [hx,hz,hc]]
 rw [show bF s [.als 5 g 0 (l.map dg).length,I l.length,.clo 205 []] = bF (s.over [] [(5,g,⟨206,8,l.map dg,1⟩)]) [.als 5 g 0 (l.map dg).length,I l.length,.clo 205 []] by rw [Fit.over (l := []) ho]]
 repeat refine ac rfl ?_
 refine ax (fun _ : Unit => True) (fun _ => [(0,.als 5 g 0 (l.map dg).length),(1,I l.length),(2,.clo 205 []),(6,I 20),(7,I 0),(8,I 20)])
  (fun _ => [(5,g,⟨206,8,l.map dg,1⟩)]) (fun _ => 0) () trivial ⟨rfl,rfl,rfl,rfl,rfl,rfl,rfl,trivial⟩ ?_
 rintro _ s1 -
 repeat refine ac rfl ?_
 refine ae rfl ?_ ?_<;>intro h
 ·have := of_decide_eq_true h;omega
 clear h
 ((repeat ((fail_if_success (with_reducible refine aP 6 ?_));refine cF rfl ?_));refine aE 4 ?_)
 repeat refine ac rfl ?_
 refine aV rfl (zn l (by omega) rfl rfl rfl rfl hd ⟨rfl,trivial⟩ fun s2 => ?_)
 refine aJ ?_
 repeat refine ac rfl ?_
 refine ax (fun _ : Unit => True) (fun _ => [(1,I l.length),(6,I 20)])
  (fun _ => [(5,g,⟨206,8,(cU gA l).map dg,1⟩)]) (fun _ => 0) () trivial ⟨rfl,rfl,rfl,trivial⟩ ?_
 rintro _ s3 -
 repeat refine ac rfl ?_
 refine ae rfl ?_ ?_<;>intro h
 ·have := of_decide_eq_true h;omega
 clear h
 repeat refine ac rfl ?_
 exact eP rfl (hK s3)
set_option maxRecDepth 20000 in
theorem wo {K : St → Prop} {s : St} {d g : Nat} {x c : Operand} {tys : Array TypeId} {ty : TypeId} {pos : String} {af : Array Edge} (l : List BN) (hl : l.length ≤ 19)
  (hx : s.ev x = .als 5 g 0 (l.map dg).length) (hc : s.ev c = .clo 205 [])
  (hd : ∀ p ∈ l,p.at'.sz 7000000)
  (ho : FitO s [(5,g,⟨206,8,l.map dg,1⟩)])
  (hK : ∀ s1 : St,K (({ reg := s.reg,own := (s1.over [] [(5,g,⟨206,8,(cU gA l).map dg,1⟩)]).own } : St).putR d (.tup []))) :
  Sm Tryz.prog lay.get s ⟨some d,.call ⟨.value (.func 204),#[x,c],tys⟩,ty,pos,af,none⟩ K := by
 refine bX layOk rfl rfl Tryz.func204 rfl (by decide) rfl rfl ?_
 show PWP _ _ _ _ (bF s (([x,c] : List Operand).map s.ev ++ []))
 rw [show (([x,c] : List Operand).map s.ev ++ ([] : List PV)) = [.als 5 g 0 (l.map dg).length,.clo 205 []] by simp [hx,hc]]
 rw [show bF s [.als 5 g 0 (l.map dg).length,.clo 205 []] = bF (s.over [] [(5,g,⟨206,8,l.map dg,1⟩)]) [.als 5 g 0 (l.map dg).length,.clo 205 []] by rw [Fit.over (l := []) ho]]
 have hen : (l.map dg).length = l.length := by rw [List.length_map]
 ((repeat ((fail_if_success (with_reducible refine aP 0 ?_));refine cF rfl ?_));refine aE 4 ?_)
 repeat refine ac rfl ?_
 refine aV rfl (qz l hl rfl (congrArg (fun n : Nat => I n) hen) rfl hd ⟨rfl,trivial⟩ fun s2 => ?_)
 refine aJ ?_
 repeat refine ac rfl ?_
 exact eP rfl (hK s2)
def ir (s : SR) (t : Rat) : Rat := s.c.val + t * (s.x : Rat)
def bn (s : SR) (t : Rat) (k : Nat) : BN := ⟨ofQ (s.k.s k - ir s t),ofQ (s.k.m k - bg s.k.m k)⟩
def jV (t : Rat) (s : SR) : List BN := (List.range s.k.S.length).map (bn s t)
def kr (l : List SR) (t : Rat) : List BN := l.flatMap (jV t)
theorem qN (t : Rat) (s : SR) : (jV t s).length = s.k.S.length := by simp [jV]
theorem qK {s : SR} (hs : s.Lim) {t : Rat} {m : Nat} (ht : HQ t m) : HQ (ir s t) (13 + (m + 4) + 1) := by
 have hx : Zb s.x := aN hs.x.1 hs.x.2
 exact @HQ.add _ _ 13 (m + 4) hs.c.v.hq (@HQ.mul _ _ m 4 ht HQ.int)
theorem qM {s : SR} (hs : s.Lim) {t : Rat} {m : Nat} (ht : HQ t m) (k : Nat) : HQ (s.k.s k - ir s t) (4 + (13 + (m + 4) + 1) + 1) := by
 have hb := jP hs.k k
 have hzb : Zb (s.k.S.getD k 0) := aN hb.1 hb.2
 exact @HQ.sub _ _ 4 _ HQ.int (qK hs ht)
theorem t_ {l : List SR} {t : Rat} {b : BN} (h : b ∈ kr l t) : ∃ s ∈ l,∃ k,k < s.k.S.length ∧ b = bn s t k := by
 obtain ⟨s,hs,hb⟩ := List.mem_flatMap.1 h
 obtain ⟨k,hk,rfl⟩ := List.mem_map.1 hb
 exact ⟨s,hs,k,List.mem_range.1 hk,rfl⟩
def t8 (l : List SR) (t : Rat) : List BN := cU gA (kr l t)
theorem p9 (f : Nat → BN) (k : Nat) : (List.range (k + 1)).map f = (List.range k).map f ++ [f k] := by rw [List.range_succ,List.map_append];rfl
set_option maxRecDepth 20000 in
structure SortC (l : List BN) : Prop where
 run : ∀ {K : St → Prop} {s : St} {d g : Nat} {x c : Operand} {tys : Array TypeId} {ty : TypeId} {pos : String} {af : Array Edge},s.ev x = .als 5 g 0 (l.map dg).length → s.ev c = .clo 205 [] → (∀ p ∈ l,p.at'.sz 7000000) → FitO s [(5,g,⟨206,8,l.map dg,1⟩)] →
  (∀ s1 : St,K (({ reg := s.reg,own := (s1.over [] [(5,g,⟨206,8,(cU gA l).map dg,1⟩)]).own } : St).putR d (.tup []))) → Sm Tryz.prog lay.get s ⟨some d,.call ⟨.value (.func 204),#[x,c],tys⟩,ty,pos,af,none⟩ K
set_option maxRecDepth 20000 in
theorem yb (l : List BN) (hl : l.length ≤ 19) : SortC l := ⟨fun hx hc hd ho hK => wo l hl hx hc hd ho hK⟩
set_option maxRecDepth 20000 in
theorem od (l : List SR) (hl : fE l) (hck : br l = 0) (h8 : ∀ s ∈ l,s.k.S.length ≤ 8) (h12 : l.length ≤ 12) (tr : RR) {t : Rat} {m : Nat} [ht : Vq tr t m] (hm : m ≤ 1000000) (h40 : (kr l t).length ≤ 40) (hS : SortC (kr l t)) :
  Ret Tryz.prog .shared 193 [.sl (l.map eS),.agg (eR tr)] (.sl ((t8 l t).map dg)) := by
 have hw0 := aS 0 ⟨by decide,by decide⟩
 have hml : (l.map eS).length = l.length := by simp
 have hlen : ∀ i,i ≤ l.length → ((l.take i).flatMap (jV t)).length ≤ 40 := fun i hi => by
  have : ((l.take i).flatMap (jV t)).length ≤ (kr l t).length := by
   conv => rhs;rw [kr,← List.take_append_drop i l,List.flatMap_append,List.length_append]
   omega
  omega
 refine Ret.of_pwp layOk mixed Go.Proofs.Tryz.func193 rfl (by decide) rfl rfl ?_
 repeat refine ac rfl ?_
 refine aB (Ghost.nilreg (k := 5) (t := 5) 206 8 1 rfl rfl) ?_
 refine ax (fun i : Nat => i ≤ l.length) (fun i => [(3,.ptr 3 1 0 0),(5,.als 5 (((l.take i).flatMap (jV t)).length + 1) 0 (((l.take i).flatMap (jV t)).map dg).length),(12,.sl (l.map eS)),(13,I l.length),(14,I (i : Nat))])
  (fun i => [(3,1,⟨26,4,[eR tr],2⟩),(5,((l.take i).flatMap (jV t)).length + 1,⟨206,8,((l.take i).flatMap (jV t)).map dg,1⟩)]) (fun i => l.length - i) 0 (Nat.zero_le _) ⟨rfl,rfl,rfl,by rw [← hml];rfl,rfl,rfl,rfl,trivial⟩ ?_
 intro i s hi
 repeat refine ac rfl ?_
 refine ae rfl ?_ ?_<;>intro h
 ·have hlt : i < l.length := by have := of_decide_eq_true h;omega
  clear h
  obtain ⟨x,hx⟩ := aM hlt
  have hxm := List.mem_of_getElem? hx
  have hxl := hl.1 x hxm
  have hkc := bZ hck x hxm
  obtain ⟨h40,hSM,-,-⟩ := cZ hkc
  have hk8 := h8 x hxm
  have hfl : (l.take (i + 1)).flatMap (jV t) = (l.take i).flatMap (jV t) ++ jV t x := by rw [cq hx,List.flatMap_append];simp
  have hA := hlen i hi
  have hA1 := hlen (i + 1) hlt
  rw [hfl,List.length_append,qN] at hA1
  generalize (l.take i).flatMap (jV t) = A at *
  have hw := f7 i
  have hzx : Zb x.x := aN hxl.x.1 hxl.x.2
  have e1 := aS x.x hxl.x
  have e2 := dV tr (ofQ (x.x : Rat)) (by omega) (by decide)
  have v2 : Vq (ofQ (t * (x.x : Rat))) (t * (x.x : Rat)) (m + 1 + 4) := Vq.ofQ (h := @HQ.mul _ _ (m + 1) 4 ht.hq HQ.int)
  have e3 := dj x.c (ofQ (t * (x.x : Rat))) (hx := hxl.c.v) (hy := v2) (by decide) (by omega)
  rw [show x.c.val + t * (x.x : Rat) = ir x t from rfl] at e3
  have vb : Vq (ofQ (ir x t)) (ir x t) (13 + (m + 1 + 4) + 1) := Vq.ofQ (h := qK hxl ht.hq)
  have hMl : (x.k.M.map eR).length = x.k.S.length := by simp [hSM]
  repeat refine ac rfl ?_
  refine bm rfl rfl rfl rfl rfl rfl rfl hx rfl ?_
  (repeat ((fail_if_success (with_reducible refine aP 5 ?_));refine cF rfl ?_))
  refine aB (gD 8) ?_
  refine aZ 8 1 [18,19,20,21,22,23,24,25,8] [] (by decide +kernel) rfl ?_
  repeat refine ac rfl ?_
  refine aq rfl rfl rfl e1 rfl rfl ?_
  repeat refine ac rfl ?_
  refine aq rfl rfl rfl e2 rfl rfl ?_
  repeat refine ac rfl ?_
  refine aq rfl rfl rfl e3 rfl rfl ?_
  repeat refine ac rfl ?_
  refine aq rfl rfl rfl hw0 rfl rfl ?_
  repeat refine ac rfl ?_
  refine dJ [(3,.ptr 3 1 0 0),(5,.als 5 (A.length + 1) 0 (A.map dg).length),(7,.ptr 7 ((s.own 7).1 + 1) 0 0),(8,.ptr 8 ((s.own 8).1 + 2 + 1) 0 0),(9,.ptr 9 ((s.own 9).1 + 1) 0 0),(12,.sl (l.map eS)),(13,I l.length),(14,I (i : Nat)),(29,.sl (x.k.M.map eR)),(30,I (x.k.M.map eR).length),(31,I ((0 : Nat) : Int))]
   [(3,1,⟨26,4,[eR tr],2⟩),(5,A.length + 1,⟨206,8,A.map dg,1⟩),(7,(s.own 7).1 + 1,⟨122,7,[eS x],2⟩),(8,(s.own 8).1 + 2 + 1,⟨26,4,[eR (ofQ (ir x t))],2⟩),(9,(s.own 9).1 + 1,⟨26,4,[eR (wY x.k 0)],2⟩)]
   ⟨rfl,rfl,rfl,rfl,rfl,rfl,rfl,rfl,rfl,rfl,rfl,rfl,rfl,rfl,rfl,rfl,trivial⟩ ?_
  generalize (s.own 7).1 + 1 = g7
  generalize (s.own 8).1 + 2 + 1 = g8
  generalize (s.own 9).1 + 1 = g9
  rw [hMl]
  intro s1
  refine ax (fun k : Nat => k ≤ x.k.S.length) (fun k => [(3,.ptr 3 1 0 0),(5,.als 5 (A.length + k + 1) 0 ((A ++ (List.range k).map (bn x t)).map dg).length),(7,.ptr 7 g7 0 0),(8,.ptr 8 g8 0 0),(9,.ptr 9 g9 0 0),(12,.sl (l.map eS)),(13,I l.length),(14,I (i : Nat)),(29,.sl (x.k.M.map eR)),(30,I x.k.S.length),(31,I (k : Nat))])
   (fun k => [(3,1,⟨26,4,[eR tr],2⟩),(5,A.length + k + 1,⟨206,8,(A ++ (List.range k).map (bn x t)).map dg,1⟩),(7,g7,⟨122,7,[eS x],2⟩),(8,g8,⟨26,4,[eR (ofQ (ir x t))],2⟩),(9,g9,⟨26,4,[eR (wY x.k k)],2⟩)]) (fun k => x.k.S.length - k) 0 (Nat.zero_le _)
   ⟨rfl,by rw [List.range_zero,List.map_nil,List.append_nil];rfl,rfl,rfl,rfl,rfl,rfl,rfl,rfl,rfl,rfl,rfl,by rw [List.range_zero,List.map_nil,List.append_nil];rfl,rfl,rfl,rfl,trivial⟩ ?_
  intro k s2 hk
  repeat refine ac rfl ?_
  refine ae rfl ?_ ?_<;>intro h
  ·have hlk : k < x.k.S.length := by have := of_decide_eq_true h;omega
   clear h
   have hsx := aW (d := 0) hlk
   have hmx := aW (l := x.k.M) (i := k) (d := RR.zero) (by omega)
   have hxb := jP hxl.k k
   have hzb : Zb (x.k.S.getD k 0) := aN hxb.1 hxb.2
   have f1 := aS (x.k.S.getD k 0) hxb
   rw [show ((x.k.S.getD k 0 : Int) : Rat) = x.k.s k from rfl] at f1
   have vs : Vq (ofQ (x.k.s k)) (x.k.s k) 4 := Vq.ofQ (h := HQ.int)
   have f2 := js (ofQ (x.k.s k)) (ofQ (ir x t)) (hx := vs) (hy := vb) (by decide) (by omega)
   have f3 := js (x.k.M.getD k RR.zero) (wY x.k k) (hx := oQ x.k hxl.k k) (hy := l0 x.k hxl.k k) (by decide) (by decide)
   have hwk : IntKind.i64.wrap (((k : Nat) : Int) + 1) = ((k + 1 : Nat) : Int) := by rw [wrap_i64 (by omega) (by omega)];omega
   have hrow : (A ++ (List.range (k + 1)).map (bn x t)).map dg = (A ++ (List.range k).map (bn x t)).map dg ++ [eR (ofQ (x.k.s k - ir x t)) ++ eR (ofQ (x.k.m k - bg x.k.m k))] := by rw [p9,← List.append_assoc,List.map_append];rfl
   have hal : (A ++ (List.range k).map (bn x t)).length ≤ 40 := by simp;omega
   generalize A ++ (List.range k).map (bn x t) = Ak at *
   generalize ofQ (x.k.s k - ir x t) = N1 at *
   generalize ofQ (x.k.m k - bg x.k.m k) = N2 at *
   generalize ofQ (x.k.s k) = N3 at *
   repeat refine ac rfl ?_
   refine bm rfl rfl rfl rfl rfl rfl rfl hmx rfl ?_
   repeat refine ac rfl ?_
   refine bM [50,5] [14,15,16] (by decide +kernel) ?_
   repeat refine ac rfl ?_
   refine bm rfl rfl rfl rfl rfl rfl rfl hsx rfl ?_
   repeat refine ac rfl ?_
   refine aq rfl rfl rfl f1 rfl rfl ?_
   repeat refine ac rfl ?_
   refine aq rfl rfl rfl f2 rfl rfl ?_
   repeat refine ac rfl ?_
   refine aq rfl rfl rfl f3 rfl rfl ?_
   repeat refine ac rfl ?_
   refine qH rfl rfl rfl (bb 1 rfl rfl rfl rfl rfl rfl rfl rfl rfl rfl rfl (by repeat' constructor) rfl ⟨iL rfl,?_⟩)
   repeat refine ac rfl ?_
   refine qH rfl rfl rfl (bC 1 rfl rfl rfl rfl rfl rfl rfl rfl rfl rfl rfl (by repeat' constructor) (by intro row hr;first | (simp at hr;subst hr;rfl) | (simp at hr;obtain ⟨_,_,rfl⟩ := hr;rfl) | simp at hr) rfl rfl (by simp;omega) (by simp;omega) ⟨iL rfl,?_⟩)
   repeat refine ac rfl ?_
   refine ⟨k + 1,hlk,by omega,rfl,?_,rfl,rfl,rfl,rfl,rfl,rfl,rfl,rfl,congrArg I hwk,rfl,?_,rfl,rfl,rfl,trivial⟩
   ·rw [hrow];rfl
   ·rw [hrow];rfl
  ·have hke : k = x.k.S.length := by have := of_decide_eq_false h;omega
   clear h
   subst hke
   rw [show (List.range x.k.S.length).map (bn x t) = jV t x from rfl]
   have hgl : A.length + x.k.S.length = ((l.take (i + 1)).flatMap (jV t)).length := by rw [hfl,List.length_append,qN]
   rw [← hfl,hgl]
   repeat refine ac rfl ?_
   exact ⟨i + 1,hlt,by omega,rfl,rfl,rfl,rfl,congrArg I hw,rfl,rfl,trivial⟩
 ·have hie : i = l.length := by have := of_decide_eq_false h;omega
  clear h
  subst hie
  rw [List.take_length]
  rw [show l.flatMap (jV t) = kr l t from rfl]
  have hsz : ∀ p ∈ kr l t,p.at'.sz 7000000 := fun p hp => by
   obtain ⟨s,hs,k,hk,rfl⟩ := t_ hp
   have := c7 (qM (hl.1 s hs) ht.hq k).ok
   exact ⟨by have := this.1;show (ofQ (s.k.s k - ir s t)).n.l.length ≤ 7000000;omega,by have := this.2;show (ofQ (s.k.s k - ir s t)).d.l.length ≤ 7000000;omega⟩
  ((repeat ((fail_if_success (with_reducible refine aP 14 ?_));refine cF rfl ?_));refine aE 1 ?_)
  refine ac rfl ?_
  refine aR ?_
  refine aV rfl (hS.run rfl rfl hsz ⟨rfl,trivial⟩ fun s1 => ?_)
  rw [show cU gA (kr l t) = t8 l t from rfl]
  have hol : (t8 l t).length = (kr l t).length := jr _ _
  have hol2 : ((kr l t).map dg).length = ((t8 l t).map dg).length := by simp [hol]
  rw [hol2]
  refine aJ ?_
  repeat refine ac rfl ?_
  exact eM rfl rfl rfl (by repeat' constructor) rfl
def prB (n : BN) : Rat × Rat := (n.at'.val,n.up.val)
def ec (b : BR) (t : Rat) : Rat := tL (b.w : Rat) ((t8 b.l t).map prB) 0 0 0
theorem wZ {l : List SR} {t : Rat} {n : BN} (h : n ∈ t8 l t) : ∃ s ∈ l,∃ k,k < s.k.S.length ∧ n = bn s t k := t_ ((fw gA _).mem_iff.1 h)
theorem oX {q : Rat} : ofQ (ofQ q).val = ofQ q := by rw [ofQ_val]
set_option maxRecDepth 20000 in
theorem pf (b : BR) (hb : b.Ok) {t : Rat} {m : Nat} (h40 : (kr b.l t).length ≤ 40) (hS : SortC (kr b.l t)) (tr : RR) [ht : Vq tr t m] (hm : m ≤ 60000) : Ret Tryz.prog .shared 165 [.agg (eB b),.agg (eR tr)] (.agg (eA ⟨ofQ (ec b t),ofQ t⟩)) := by
 have hw0 := aS 0 ⟨by decide,by decide⟩
 rw [show (((0 : Int) : Rat)) = 0 from rfl] at hw0
 have hww := aS b.w hb.lim.w
 have zw : Zb b.w := aN hb.lim.w.1 hb.lim.w.2
 have vw : Vq (ofQ (b.w : Rat)) (b.w : Rat) 4 := Vq.ofQ (h := HQ.int)
 have hbe := od b.l hb.lim.l hb.chkL hb.few.2 (by have := hb.few.1;omega) tr (m := m) (by omega) h40 hS
 have hlow := pW tr (by omega)
 have hol : (t8 b.l t).length = (kr b.l t).length := jr _ _
 have hol40 : (t8 b.l t).length ≤ 40 := by omega
 have hat : ∀ n ∈ t8 b.l t,n.at' = ofQ n.at'.val ∧ n.up = ofQ n.up.val ∧ HQ n.at'.val (m + 30) ∧ HQ n.up.val 27 := fun n hn => by
  obtain ⟨s,hs,k,hk,rfl⟩ := wZ hn
  refine ⟨oX.symm,oX.symm,?_,?_⟩
  ·show HQ (ofQ (s.k.s k - ir s t)).val (m + 30)
   rw [ofQ_val]
   exact (qM (hb.lim.l.1 s hs) ht.hq k).mono (by omega)
  ·show HQ (ofQ (s.k.m k - bg s.k.m k)).val 27
   rw [ofQ_val]
   exact kV (hb.lim.l.1 s hs).k k
 generalize hZ : ec b t = Z
 rw [ec] at hZ
 generalize t8 b.l t = B at *
 have hml : (B.map dg).length = B.length := by simp
 obtain ⟨w,ba,l⟩ := b
 simp only at *
 generalize (w : Rat) = W at *
 refine Ret.of_pwp layOk mixed Go.Proofs.Tryz.func165 rfl (by decide) rfl rfl ?_
 repeat refine ac rfl ?_
 refine aq rfl rfl rfl hw0 rfl rfl ?_
 repeat refine ac rfl ?_
 refine aq rfl rfl rfl hw0 rfl rfl ?_
 repeat refine ac rfl ?_
 refine aq rfl rfl rfl hww rfl rfl ?_
 repeat refine ac rfl ?_
 refine aq rfl rfl rfl hw0 rfl rfl ?_
 repeat refine ac rfl ?_
 refine aq rfl rfl rfl hbe rfl rfl ?_
 repeat refine ac rfl ?_
 refine ax (fun q : Nat × Rat × Rat × Rat => q.1 ≤ B.length ∧ tL W ((B.drop q.1).map prB) q.2.1 q.2.2.1 q.2.2.2 = Z ∧ HQ q.2.1 (q.1 * (2 * m + 1300) + 4) ∧ HQ q.2.2.1 (q.1 * 28 + 4) ∧ HQ q.2.2.2 (m + 30)) (fun q => [(3,.ptr 3 1 0 0),(4,.ptr 4 1 0 0),(5,.ptr 5 1 0 0),(6,.ptr 6 1 0 0),(7,.ptr 7 1 0 0),(8,.ptr 8 1 0 0),(21,.sl (B.map dg)),(22,I B.length),(23,I (q.1 : Nat))])
  (fun q => [(3,1,⟨26,4,[eR tr],2⟩),(4,1,⟨40,8,[zN ++ zN],2⟩),(5,1,⟨26,4,[eR (ofQ q.2.1)],2⟩),(6,1,⟨26,4,[eR (ofQ q.2.2.1)],2⟩),(7,1,⟨26,4,[eR (ofQ W)],2⟩),(8,1,⟨26,4,[eR (ofQ q.2.2.2)],2⟩)]) (fun q => B.length - q.1) (0,0,0,0)
  ⟨Nat.zero_le _,by rw [List.drop_zero];exact hZ,HQ.zero.mono (by omega),HQ.zero.mono (by omega),HQ.zero.mono (by omega)⟩ ⟨rfl,rfl,rfl,rfl,rfl,rfl,rfl,by rw [← hml];rfl,rfl,rfl,rfl,rfl,rfl,rfl,rfl,trivial⟩ ?_
 rintro ⟨i,c,k,a⟩ s ⟨hi,hS,hc,hk,ha⟩
 simp only at hi hS hc hk ha
 dsimp only
 have hcb : i * (2 * m + 1300) + 4 ≤ 40 * (2 * m + 1300) + 4 := by have := Nat.mul_le_mul (show i ≤ 40 by omega) (Nat.le_refl (2 * m + 1300));omega
 have vk : Vq (ofQ k) k (i * 28 + 4) := Vq.ofQ (h := hk)
 have vc : Vq (ofQ c) c (i * (2 * m + 1300) + 4) := Vq.ofQ (h := hc)
 have va : Vq (ofQ a) a (m + 30) := Vq.ofQ (h := ha)
 have sgk := lr (ofQ k) (hx := vk) (by omega)
 have hsk := fW k
 have t1 := js (ofQ W) (ofQ c) (hx := vw) (hy := vc) (by decide) (by omega)
 have u1 : Vq (ofQ (W - c)) (W - c) (4 + (i * (2 * m + 1300) + 4) + 1) := Vq.ofQ (h := @HQ.sub _ _ 4 _ (b8 vw) hc)
 generalize hgk : sgn k = gk at *
 repeat refine ac rfl ?_
 refine ae rfl ?_ ?_<;>intro h
 ·have hlt : i < B.length := by have := of_decide_eq_true h;omega
  clear h
  obtain ⟨x,hx⟩ := aM hlt
  obtain ⟨x1,x2,x3,x4⟩ := hat x (List.mem_of_getElem? hx)
  have hdr : (B.drop i).map prB = prB x :: (B.drop (i + 1)).map prB := by
   obtain ⟨hl1,h2⟩ := List.getElem?_eq_some_iff.1 hx
   rw [List.drop_eq_getElem_cons hl1,h2];rfl
  rw [hdr,tL] at hS
  have hw := f7 i
  obtain ⟨xa,xu⟩ := x
  obtain ⟨p,rfl⟩ : ∃ p,xa = ofQ p := ⟨_,x1⟩
  obtain ⟨u,rfl⟩ : ∃ u,xu = ofQ u := ⟨_,x2⟩
  clear x1 x2
  simp only [prB,ofQ_val] at hS x3 x4
  have vp : Vq (ofQ p) p (m + 30) := Vq.ofQ (h := x3)
  have vu : Vq (ofQ u) u 27 := Vq.ofQ (h := x4)
  have e1 := js (ofQ p) (ofQ a) (hx := vp) (hy := va) (by omega) (by omega)
  have w1 : Vq (ofQ (p - a)) (p - a) (m + 30 + (m + 30) + 1) := Vq.ofQ (h := @HQ.sub _ _ _ _ x3 ha)
  have e2 := dV (ofQ k) (ofQ (p - a)) (hx := vk) (hy := w1) (by omega) (by omega)
  have w2 : Vq (ofQ (k * (p - a))) (k * (p - a)) (i * 28 + 4 + (m + 30 + (m + 30) + 1)) := Vq.ofQ (h := @HQ.mul _ _ _ _ hk (b8 w1))
  have e3 := dj (ofQ c) (ofQ (k * (p - a))) (hx := vc) (hy := w2) (by omega) (by omega)
  have h3 : HQ (c + k * (p - a)) ((i + 1) * (2 * m + 1300) + 4) := (@HQ.add _ _ _ _ hc (b8 w2)).mono (by rw [Nat.add_mul];omega)
  have w3 : Vq (ofQ (c + k * (p - a))) (c + k * (p - a)) ((i + 1) * (2 * m + 1300) + 4) := Vq.ofQ (h := h3)
  have hcb1 : (i + 1) * (2 * m + 1300) + 4 ≤ 41 * (2 * m + 1300) + 4 := by have := Nat.mul_le_mul (show i + 1 ≤ 41 by omega) (Nat.le_refl (2 * m + 1300));omega
  have e4 := nf (ofQ (c + k * (p - a))) (ofQ W) (hx := w3) (hy := vw) (by omega) (by decide)
  have hs4 := vZ (c + k * (p - a) - W)
  have e5 := dj (ofQ k) (ofQ u) (hx := vk) (hy := vu) (by omega) (by decide)
  have h5 : HQ (k + u) ((i + 1) * 28 + 4) := (@HQ.add _ _ _ _ hk x4).mono (by omega)
  have h6 : HQ c ((i + 1) * (2 * m + 1300) + 4) := hc.mono (by rw [Nat.add_mul];omega)
  by_cases hkp : 0 < k
  ·have hkg : 0 < gk := by rw [← hgk];exact (fW k).2 hkp
   rw [if_pos hkp] at hS
   by_cases hr : W ≤ c + k * (p - a)
   ·rw [if_pos hr] at hS
    have hr4 : 0 ≤ sgn (c + k * (p - a) - W) := hs4.2 (by grind)
    have t2 := mt (ofQ (W - c)) (ofQ k) (hx := u1) (hy := vk) (by omega) (by omega) (by grind)
    have u2 : Vq (ofQ ((W - c) / k)) ((W - c) / k) (4 + (i * (2 * m + 1300) + 4) + 1 + (i * 28 + 4)) := Vq.ofQ (h := @HQ.div _ _ _ _ (b8 u1) hk)
    have t3 := dj (ofQ a) (ofQ ((W - c) / k)) (hx := va) (hy := u2) (by omega) (by omega)
    rw [hS] at t3
    generalize sgn (c + k * (p - a) - W) = g4 at *
    generalize ofQ (c + k * (p - a)) = Y1 at *
    repeat refine ac rfl ?_
    refine bm rfl rfl rfl rfl rfl rfl rfl hx rfl ?_
    repeat refine ac rfl ?_
    refine aT rfl rfl rfl sgk rfl rfl rfl ?_
    repeat refine ac rfl ?_
    refine ae rfl ?_ ?_<;>intro h
    ·clear h
     (repeat ((fail_if_success (with_reducible refine aP 8 ?_));refine cF rfl ?_))
     refine aB (gD 11) ?_
     refine aZ 8 1 [30,31,32,33,34,35,36,37,11] [] (by decide +kernel) rfl ?_
     repeat refine ac rfl ?_
     refine aq rfl rfl rfl e1 rfl rfl ?_
     repeat refine ac rfl ?_
     refine aq rfl rfl rfl e2 rfl rfl ?_
     repeat refine ac rfl ?_
     refine aq rfl rfl rfl e3 rfl rfl ?_
     repeat refine ac rfl ?_
     refine aT rfl rfl rfl e4 rfl rfl rfl ?_
     repeat refine ac rfl ?_
     refine ae rfl ?_ ?_<;>intro h
     ·clear h
      repeat refine ac rfl ?_
      refine aT rfl rfl rfl sgk rfl rfl rfl ?_
      repeat refine ac rfl ?_
      refine ae rfl ?_ ?_<;>intro h
      ·clear h
       repeat refine ac rfl ?_
       refine am 7 [53,54,55,56,57,58,59] (by decide +kernel) ?_
       repeat refine ac rfl ?_
       refine aq rfl rfl rfl t1 rfl rfl ?_
       repeat refine ac rfl ?_
       refine aq rfl rfl rfl t2 rfl rfl ?_
       repeat refine ac rfl ?_
       refine aq rfl rfl rfl t3 rfl rfl ?_
       repeat refine ac rfl ?_
       refine am 4 [60,61,62,63] (by decide +kernel) ?_
       repeat refine ac rfl ?_
       refine aq rfl rfl rfl hlow rfl rfl ?_
       repeat refine ac rfl ?_
       exact aF rfl rfl rfl
      ·exact absurd hkg (of_decide_eq_false h)
     ·exact absurd hr4 (of_decide_eq_false h)
    ·exact absurd hkg (of_decide_eq_false h)
   ·rw [if_neg hr] at hS
    have hr4 : ¬ 0 ≤ sgn (c + k * (p - a) - W) := fun h => by have := hs4.1 h;grind
    generalize sgn (c + k * (p - a) - W) = g4 at *
    generalize hY1 : ofQ (c + k * (p - a)) = Y1 at *
    generalize hY2 : ofQ (k + u) = Y2 at *
    repeat refine ac rfl ?_
    refine bm rfl rfl rfl rfl rfl rfl rfl hx rfl ?_
    repeat refine ac rfl ?_
    refine aT rfl rfl rfl sgk rfl rfl rfl ?_
    repeat refine ac rfl ?_
    refine ae rfl ?_ ?_<;>intro h
    ·clear h
     (repeat ((fail_if_success (with_reducible refine aP 8 ?_));refine cF rfl ?_))
     refine aB (gD 11) ?_
     refine aZ 8 1 [30,31,32,33,34,35,36,37,11] [] (by decide +kernel) rfl ?_
     repeat refine ac rfl ?_
     refine aq rfl rfl rfl e1 rfl rfl ?_
     repeat refine ac rfl ?_
     refine aq rfl rfl rfl e2 rfl rfl ?_
     repeat refine ac rfl ?_
     refine aq rfl rfl rfl e3 rfl rfl ?_
     repeat refine ac rfl ?_
     refine aT rfl rfl rfl e4 rfl rfl rfl ?_
     repeat refine ac rfl ?_
     refine ae rfl ?_ ?_<;>intro h
     ·exact absurd (of_decide_eq_true h) hr4
     ·clear h
      repeat refine ac rfl ?_
      refine aq rfl rfl rfl e5 rfl rfl ?_
      repeat refine ac rfl ?_
      refine ⟨(i + 1,c + k * (p - a),k + u,p),⟨hlt,hS,h3,h5,x3⟩,by simp only;omega,rfl,rfl,rfl,rfl,rfl,rfl,rfl,rfl,congrArg I hw,rfl,rfl,by rw [← hY1];rfl,by rw [← hY2];rfl,rfl,rfl,trivial⟩
    ·exact absurd hkg (of_decide_eq_false h)
  ·have hkg : ¬ 0 < gk := fun h => hkp (by rw [← hgk] at h;exact (fW k).1 h)
   rw [if_neg hkp] at hS
   generalize hY2 : ofQ (k + u) = Y2 at *
   repeat refine ac rfl ?_
   refine bm rfl rfl rfl rfl rfl rfl rfl hx rfl ?_
   repeat refine ac rfl ?_
   refine aT rfl rfl rfl sgk rfl rfl rfl ?_
   repeat refine ac rfl ?_
   refine ae rfl ?_ ?_<;>intro h
   ·exact absurd (of_decide_eq_true h) hkg
   ·clear h
    repeat refine ac rfl ?_
    refine aq rfl rfl rfl e5 rfl rfl ?_
    repeat refine ac rfl ?_
    refine ⟨(i + 1,c,k + u,p),⟨hlt,hS,h6,h5,x3⟩,by simp only;omega,rfl,rfl,rfl,rfl,rfl,rfl,rfl,rfl,congrArg I hw,rfl,rfl,rfl,by rw [← hY2];rfl,rfl,rfl,trivial⟩
 ·have hie : i = B.length := by have := of_decide_eq_false h;omega
  clear h
  rw [hie,List.drop_length,List.map_nil,tL] at hS
  by_cases hkp : 0 < k
  ·have hkg : 0 < gk := by rw [← hgk];exact (fW k).2 hkp
   rw [if_pos hkp] at hS
   have t2 := mt (ofQ (W - c)) (ofQ k) (hx := u1) (hy := vk) (by omega) (by omega) (by grind)
   have u2 : Vq (ofQ ((W - c) / k)) ((W - c) / k) (4 + (i * (2 * m + 1300) + 4) + 1 + (i * 28 + 4)) := Vq.ofQ (h := @HQ.div _ _ _ _ (b8 u1) hk)
   have t3 := dj (ofQ a) (ofQ ((W - c) / k)) (hx := va) (hy := u2) (by omega) (by omega)
   rw [hS] at t3
   repeat refine ac rfl ?_
   refine aT rfl rfl rfl sgk rfl rfl rfl ?_
   repeat refine ac rfl ?_
   refine ae rfl ?_ ?_<;>intro h
   ·clear h
    repeat refine ac rfl ?_
    refine am 7 [53,54,55,56,57,58,59] (by decide +kernel) ?_
    repeat refine ac rfl ?_
    refine aq rfl rfl rfl t1 rfl rfl ?_
    repeat refine ac rfl ?_
    refine aq rfl rfl rfl t2 rfl rfl ?_
    repeat refine ac rfl ?_
    refine aq rfl rfl rfl t3 rfl rfl ?_
    repeat refine ac rfl ?_
    refine am 4 [60,61,62,63] (by decide +kernel) ?_
    repeat refine ac rfl ?_
    refine aq rfl rfl rfl hlow rfl rfl ?_
    repeat refine ac rfl ?_
    exact aF rfl rfl rfl
   ·exact absurd hkg (of_decide_eq_false h)
  ·have hkg : ¬ 0 < gk := fun h => hkp (by rw [← hgk] at h;exact (fW k).1 h)
   rw [if_neg hkp] at hS
   repeat refine ac rfl ?_
   refine aT rfl rfl rfl sgk rfl rfl rfl ?_
   repeat refine ac rfl ?_
   refine ae rfl ?_ ?_<;>intro h
   ·exact absurd (of_decide_eq_true h) hkg
   ·clear h
    repeat refine ac rfl ?_
    refine am 4 [60,61,62,63] (by decide +kernel) ?_
    repeat refine ac rfl ?_
    refine aq rfl rfl rfl hlow rfl rfl ?_
    repeat refine ac rfl ?_
    exact pQ rfl (by repeat' constructor) rfl (by repeat' constructor) (by rw [← hS];rfl)
theorem lZ {b : BR} (hb : b.Ok) : (bd b).Ok := by
 refine ⟨fun i hi => sd (bZ hb.chkL _ (aK hi)),?_⟩
 have := (ku hb.chk).1
 show (0 : Rat) < (b.w : Rat)
 have h : (0 : Int) < b.w := by omega
 exact_mod_cast h
theorem zr {c : CR} (hc : c.Lim) {p : Nat} (hp : p ≤ 8) : HQ (gx c.s c.m p) 300 := by
 rw [gx]
 refine (be (m := 31) p fun k _ => ?_).mono (by omega)
 have hb := jP hc k
 have hzb : Zb (c.S.getD k 0) := aN hb.1 hb.2
 exact @HQ.mul _ _ 27 4 (kV hc k) HQ.int
theorem uP {b : BR} (hb : b.Ok) (p : Nat → Nat) {i : Nat} (hi : i < b.l.length) : HQ ((bd b).k p i) 13 := (l0 _ (hb.lim.l.1 _ (aK hi)).k (p i)).hq
theorem yk {b : BR} (hb : b.Ok) {i : Nat} (hi : i < b.l.length) : HQ ((bd b).X i) 4 := by
 have hx := (hb.lim.l.1 _ (aK hi)).x
 have hx : Zb (b.l.getD i dS).x := aN hx.1 hx.2
 exact HQ.int
theorem tQ {b : BR} (hb : b.Ok) (p : Nat → Nat) : HQ ((bd b).Kh p) 300 := (be (m := 13) b.l.length fun i hi => uP hb p hi).mono (by have := hb.few.1;omega)
theorem tP {b : BR} (hb : b.Ok) (p : Nat → Nat) : HQ ((bd b).Kc p) 300 := (be (m := 17) b.l.length fun i hi => @HQ.mul _ _ 13 4 (uP hb p hi) (yk hb hi)).mono (by have := hb.few.1;omega)
theorem yt {b : BR} (hb : b.Ok) (p : Nat → Nat) : HQ ((bd b).Kp p) 300 := (be (m := 21) b.l.length fun i hi => @HQ.mul _ _ 17 4 (@HQ.mul _ _ 13 4 (uP hb p hi) (yk hb hi)) (yk hb hi)).mono (by have := hb.few.1;omega)
theorem yF {b : BR} (hb : b.Ok) {p : Nat → Nat} (hp : ∀ i,i < b.l.length → p i ≤ (bd b).n i) {i : Nat} (hi : i < b.l.length) : HQ ((bd b).k p i * (bd b).C i - (bd b).o p i) 327 := by
 have h8 := hb.few.2 _ (aK hi)
 have hpi := hp i hi
 have hc : HQ ((bd b).C i) 13 := (hb.lim.l.1 _ (aK hi)).c.v.hq
 exact @HQ.sub _ _ 26 300 (@HQ.mul _ _ 13 13 (uP hb p hi) hc) (zr (hb.lim.l.1 _ (aK hi)).k (Nat.le_trans hpi h8))
theorem yr {b : BR} (hb : b.Ok) {p : Nat → Nat} (hp : ∀ i,i < b.l.length → p i ≤ (bd b).n i) : HQ ((bd b).Fo p) 4100 := (be (m := 327) b.l.length fun i hi => yF hb hp hi).mono (by have := hb.few.1;omega)
theorem zX {b : BR} (hb : b.Ok) {p : Nat → Nat} (hp : ∀ i,i < b.l.length → p i ≤ (bd b).n i) : HQ ((bd b).Go p) 4100 := (be (m := 331) b.l.length fun i hi => @HQ.mul _ _ 327 4 (yF hb hp hi) (yk hb hi)).mono (by have := hb.few.1;omega)
theorem qS {z X D : Rat} (hd : D ≠ 0) : z + (X - z * D) / D = X / D := by grind
theorem xe {h c p z t F G w M : Rat} (hd : h * p - c * c ≠ 0) : z + (p * (w - (h * z + c * t + F)) - c * (M - (c * z + p * t + G))) / (h * p - c * c) = (p * (w - F) - c * (M - G)) / (h * p - c * c) := by
 rw [show p * (w - (h * z + c * t + F)) - c * (M - (c * z + p * t + G)) = (p * (w - F) - c * (M - G)) - z * (h * p - c * c) by grind,qS hd]
theorem xf {h c p z t F G w M : Rat} (hd : h * p - c * c ≠ 0) : t + (h * (M - (c * z + p * t + G)) - c * (w - (h * z + c * t + F))) / (h * p - c * c) = (h * (M - G) - c * (w - F)) / (h * p - c * c) := by
 rw [show h * (M - (c * z + p * t + G)) - c * (w - (h * z + c * t + F)) = (h * (M - G) - c * (w - F)) - t * (h * p - c * c) by grind,qS hd]
theorem xB {b : BR} (hb : b.Ok) {p : Nat → Nat} {z t : Rat} (hp : (bd b).Inc p z t) {d : Rat × Rat} (h : Bd.newt ((bd b).Kh p) ((bd b).Kc p) ((bd b).Kp p) ((bd b).w - (bd b).F z t) (-((bd b).e z t)) = some d) : HQ (z + d.1) 20000 ∧ HQ (t + d.2) 20000 := by
 have hpn : ∀ i,i < b.l.length → p i ≤ (bd b).n i := fun i hi => (hp i hi).1
 have hw : Zb b.w := aN hb.lim.w.1 hb.lim.w.2
 have e1 := Bd.F_at (lZ hb) hp
 have e2 := Bd.G_at (lZ hb) hp
 rw [Bd.newt] at h
 split at h
 ·cases h
 ·rename_i hd
  cases h
  have hf : -((bd b).e z t) = (bd b).w * (bd b).A - (bd b).G z t := by rw [Bd.e];grind
  simp only
  rw [hf,e1,e2,xe hd,xf hd]
  have kh := tQ hb p
  have kc := tP hb p
  have kp := yt hb p
  have fo := yr hb hpn
  have go := zX hb hpn
  have wq : HQ ((bd b).w) 4 := HQ.int
  have wa : HQ ((bd b).w * (bd b).A) 17 := rR hb
  have f1 := @HQ.sub _ _ 4 4100 wq fo
  have g1 := @HQ.sub _ _ 17 4100 wa go
  have dt := @HQ.sub _ _ _ _ (@HQ.mul _ _ 300 300 kh kp) (@HQ.mul _ _ 300 300 kc kc)
  exact ⟨(@HQ.div _ _ _ _ (@HQ.sub _ _ _ _ (@HQ.mul _ _ _ _ kp f1) (@HQ.mul _ _ _ _ kc g1)) dt).mono (by omega),(@HQ.div _ _ _ _ (@HQ.sub _ _ _ _ (@HQ.mul _ _ _ _ kh g1) (@HQ.mul _ _ _ _ kc f1)) dt).mono (by omega)⟩
def yE (o : Option (Rat × Rat)) : PV := match o with
 |none => .tup [.agg (zN ++ zN),.bool false]
 |some x => .tup [.agg (eA ⟨ofQ x.1,ofQ x.2⟩),.bool true]
theorem rQ {x : RR} {p : Rat} {n m : Nat} (h : Vq x p n) (hm : n ≤ m) : Vq x p m := ⟨h.val,Nat.le_trans h.sz.1 hm,Nat.le_trans h.sz.2 hm⟩
theorem Aq {b : BR} (hb : b.Ok) (z t : Rat) : (bd b).Inc ((bd b).pR z t) z t := fun i hi => (zz (n := (bd b).n i) (S := (bd b).S i) (y := (bd b).y z t i)).c
theorem Ap {b : BR} (hb : b.Ok) (z t : Rat) : (bd b).Inc ((bd b).pL z t) z t := fun i hi => (vm (n := (bd b).n i) (S := (bd b).S i) (y := (bd b).y z t i)).c
def AE (b : BR) (p : Nat → Nat) : PV := .agg (eK (ofQ ((bd b).Kh p)) (ofQ ((bd b).Kc p)) (ofQ ((bd b).Kp p)))
theorem qB (b : BR) (hb : b.Ok) (a : AR) {z t : Rat} {n m : Nat} [ha : Va a z t n m] (hn : n + m ≤ 60000) : Ret Tryz.prog .shared 126 [.sl (b.l.map eS),.clo 173 [.dref (eA a) 0]] (AE b ((bd b).pR z t)) :=
 mN b.l hb.lim.l hb.few 173 (eA a) (fun s => ofQ (bg s.k.m (jL s.k.s (yQ s z t) s.k.S.length))) ((bd b).k ((bd b).pR z t)) (fun s hs => li s (hb.lim.l.1 s hs) (bZ hb.chkL s hs) a (by omega))
  (fun i hi => rQ (Vq.ofQ (h := uP hb ((bd b).pR z t) hi)) (by decide))
theorem qA (b : BR) (hb : b.Ok) (a : AR) {z t : Rat} {n m : Nat} [ha : Va a z t n m] (hn : n + m ≤ 60000) : Ret Tryz.prog .shared 126 [.sl (b.l.map eS),.clo 206 [.dref (eA a) 0]] (AE b ((bd b).pL z t)) :=
 mN b.l hb.lim.l hb.few 206 (eA a) (fun s => sN s.k (yQ s z t) s.k.S.length) ((bd b).k ((bd b).pL z t)) (fun s hs => mh s (hb.lim.l.1 s hs) (bZ hb.chkL s hs) a (by omega))
  (fun i hi => rQ (uT (hb.lim.l.1 _ (aK hi)).k _ _) (by decide))
structure TryC (b : BR) (a : AR) (z t : Rat) (fo mo : RR) (p : Nat → Nat) (d : Option (Rat × Rat)) : Prop where
 mv : Ret Tryz.prog .shared 125 [AE b p,.agg (eR fo),.agg (eR mo)] (kU d)
 af : ∀ x,d = some x → Ret Tryz.prog .shared 128 [.agg (eA a),.agg (eA ⟨ofQ x.1,ofQ x.2⟩)] (.agg (eA ⟨ofQ (z + x.1),ofQ (t + x.2)⟩))
 ba : ∀ x,d = some x → Ret Tryz.prog .shared 115 [.agg (eB b),.agg (eA ⟨ofQ (z + x.1),ofQ (t + x.2)⟩)] (.bool (decide ((bd b).Bal (z + x.1) (t + x.2))))
theorem AC (b : BR) (hb : b.Ok) (a : AR) {z t : Rat} {n m : Nat} (ha : Va a z t n m) (hn : n + m ≤ 50000) {p : Nat → Nat} (hp : (bd b).Inc p z t) :
  TryC b a z t (ofQ ((bd b).w - (bd b).F z t)) (ofQ (-((bd b).e z t))) p (Bd.newt ((bd b).Kh p) ((bd b).Kc p) ((bd b).Kp p) ((bd b).w - (bd b).F z t) (-((bd b).e z t))) := by
 have hw : Zb b.w := aN hb.lim.w.1 hb.lim.w.2
 have wq : HQ ((bd b).w) 4 := HQ.int
 have hF : HQ ((bd b).w - (bd b).F z t) (96 * (n + m + 62) + 400) := (@HQ.sub _ _ 4 (96 * ((n + 1) + (m + 1) + 60) + 200) wq (yU hb.lim.l hb.few ha.z.hq ha.t.hq)).mono (by omega)
 have hE : HQ (-((bd b).e z t)) (96 * (n + m + 62) + 400) := (@HQ.neg _ _ (zh hb ha.z.hq ha.t.hq)).mono (by omega)
 have hd : ∀ x,Bd.newt ((bd b).Kh p) ((bd b).Kc p) ((bd b).Kp p) ((bd b).w - (bd b).F z t) (-((bd b).e z t)) = some x → HQ (z + x.1) 20000 ∧ HQ (t + x.2) 20000 := fun x hx => xB hb hp hx
 refine ⟨sS _ _ _ _ _ (a := 300) (b := 96 * (n + m + 62) + 400) (Vq.ofQ (h := tQ hb p)) (Vq.ofQ (h := tP hb p)) (Vq.ofQ (h := yt hb p)) (Vq.ofQ (h := hF)) (Vq.ofQ (h := hE)) (by decide) (by omega),fun x hx => ?_,fun x hx => ?_⟩
 ·obtain ⟨h1,h2⟩ := hd x hx
  have q1 : HQ x.1 (20000 + (n + 1) + 1) := by
   have := @HQ.sub _ _ 20000 (n + 1) h1 ha.z.hq
   rwa [show z + x.1 - z = x.1 by grind] at this
  have q2 : HQ x.2 (20000 + (m + 1) + 1) := by
   have := @HQ.sub _ _ 20000 (m + 1) h2 ha.t.hq
   rwa [show t + x.2 - t = x.2 by grind] at this
  exact rY a ⟨ofQ x.1,ofQ x.2⟩ (hd := ⟨Vq.ofQ (h := q1),Vq.ofQ (h := q2)⟩) (by omega) (by omega) (by omega) (by omega)
 ·obtain ⟨h1,h2⟩ := hd x hx
  exact m8 b hb ⟨ofQ (z + x.1),ofQ (t + x.2)⟩ (ha := ⟨Vq.ofQ (h := h1),Vq.ofQ (h := h2)⟩) (by decide)
def tD (b : BR) (z t : Rat) : Option (Rat × Rat) → Option (Rat × Rat)
 |none => none
 |some d => if (bd b).Bal (z + d.1) (t + d.2) then some (z + d.1,t + d.2) else none
def zR (b : BR) (z t : Rat) (p : Nat → Nat) : Option (Rat × Rat) := Bd.newt ((bd b).Kh p) ((bd b).Kc p) ((bd b).Kp p) ((bd b).w - (bd b).F z t) (-((bd b).e z t))
theorem rL (b : BR) (z t : Rat) (p : Nat → Nat) : (bd b).tryP z t p = tD b z t (zR b z t p) := by
 rw [Bd.tryP,zR]
 cases Bd.newt ((bd b).Kh p) ((bd b).Kc p) ((bd b).Kp p) ((bd b).w - (bd b).F z t) (-((bd b).e z t)) <;> rfl
set_option maxRecDepth 20000 in
theorem sC (b : BR) (hb : b.Ok) (a : AR) {z t : Rat} {n m : Nat} [ha : Va a z t n m] (hn : n + m ≤ 50000) : Ret Tryz.prog .shared 167 [.agg (eB b),.agg (eA a)] (yE ((bd b).guess z t)) := by
 have h1 := ip b.l hb.lim.l hb.chkL hb.few a (by omega)
 have h2 := aS b.w hb.lim.w
 have zw : Zb b.w := aN hb.lim.w.1 hb.lim.w.2
 have v1 : Vq (ofQ (ak (fI b.l z t) b.l.length)) (ak (fI b.l z t) b.l.length) (96 * (n + 1 + (m + 1) + 60) + 200) := Vq.ofQ (h := yU hb.lim.l hb.few ha.z.hq ha.t.hq)
 have h3 := js (ofQ (b.w : Rat)) (ofQ (ak (fI b.l z t) b.l.length)) (hy := v1) (by decide) (by omega)
 rw [show (b.w : Rat) - ak (fI b.l z t) b.l.length = (bd b).w - (bd b).F z t from rfl] at h3
 have h4 := kE b hb a (by omega)
 have v4 : Vq (ofQ ((bd b).e z t)) ((bd b).e z t) (96 * (n + 1 + (m + 1) + 60) + 200 + 17 + 1) := Vq.ofQ (h := zh hb ha.z.hq ha.t.hq)
 have h5 := As (ofQ ((bd b).e z t)) (hx := v4) (by omega)
 have h6 := mG a
 have h7 := oN a
 have sR := qB b hb a (z := z) (t := t) (by omega)
 have sL := qA b hb a (z := z) (t := t) (by omega)
 have cR := AC b hb a ha hn (Aq hb z t)
 have cL := AC b hb a ha hn (Ap hb z t)
 rw [show Bd.newt ((bd b).Kh ((bd b).pR z t)) ((bd b).Kc ((bd b).pR z t)) ((bd b).Kp ((bd b).pR z t)) ((bd b).w - (bd b).F z t) (-((bd b).e z t)) = zR b z t ((bd b).pR z t) from rfl] at cR
 rw [show Bd.newt ((bd b).Kh ((bd b).pL z t)) ((bd b).Kc ((bd b).pL z t)) ((bd b).Kp ((bd b).pL z t)) ((bd b).w - (bd b).F z t) (-((bd b).e z t)) = zR b z t ((bd b).pL z t) from rfl] at cL
 generalize hG : (bd b).guess z t = G
 rw [Bd.guess,rL,rL] at hG
 generalize hPR : (bd b).pR z t = pR at *
 generalize hPL : (bd b).pL z t = pL at *
 obtain ⟨m1,m2,m3⟩ := cR
 obtain ⟨l1,l2,l3⟩ := cL
 generalize zR b z t pR = oR at *
 generalize zR b z t pL = oL at *
 rw [AE] at sR sL m1 l1
 generalize ofQ ((bd b).Kh pR) = R1 at *
 generalize ofQ ((bd b).Kc pR) = R2 at *
 generalize ofQ ((bd b).Kp pR) = R3 at *
 generalize ofQ ((bd b).Kh pL) = L1 at *
 generalize ofQ ((bd b).Kc pL) = L2 at *
 generalize ofQ ((bd b).Kp pL) = L3 at *
 generalize ofQ ((bd b).w - (bd b).F z t) = FO at *
 generalize ofQ (-((bd b).e z t)) = MO at *
 generalize ofQ ((bd b).e z t) = EX at *
 generalize ofQ (ak (fI b.l z t) b.l.length) = TF at *
 generalize ofQ (ak (gI b.l z t) b.l.length) = TG at *
 refine Ret.of_pwp layOk mixed Go.Proofs.Tryz.func167 rfl (by decide) rfl rfl ?_
 repeat refine ac rfl ?_
 refine aq rfl rfl rfl h1 rfl rfl ?_
 repeat refine ac rfl ?_
 refine aZ 6 1 [21,22,23,24,25,26,8] [] (by decide +kernel) rfl ?_
 repeat refine ac rfl ?_
 refine aq rfl rfl rfl h2 rfl rfl ?_
 repeat refine ac rfl ?_
 refine aq rfl rfl rfl h3 rfl rfl ?_
 repeat refine ac rfl ?_
 refine aq rfl rfl rfl h4 rfl rfl ?_
 repeat refine ac rfl ?_
 refine aq rfl rfl rfl h5 rfl rfl ?_
 repeat refine ac rfl ?_
 refine bM [35] [4,5] (by decide +kernel) ?_
 repeat refine ac rfl ?_
 refine aq rfl rfl rfl h6 rfl rfl ?_
 repeat refine ac rfl ?_
 refine aq rfl rfl rfl h7 rfl rfl ?_
 repeat refine ac rfl ?_
 refine qH rfl rfl rfl (bb 2 rfl rfl rfl rfl rfl rfl rfl rfl rfl rfl rfl (by repeat' constructor) rfl ⟨iL rfl,?_⟩)
 repeat refine ac rfl ?_
 refine ax (fun i : Nat => (i = 0 ∧ (match tD b z t oR with | some x => some x | none => tD b z t oL) = G) ∨ (i = 1 ∧ tD b z t oL = G) ∨ (i = 2 ∧ G = none)) (fun i => [(2,.ptr 2 1 0 0),(3,.ptr 3 1 0 0),(4,.ptr 4 1 0 0),(8,.ptr 8 1 0 0),(9,.ptr 9 1 0 0),(35,.als 35 1 0 2),(36,I 2),(37,I (i : Nat))])
  (fun _ => [(2,1,⟨29,6,[eB b],2⟩),(3,1,⟨40,8,[eA a],2⟩),(4,1,⟨40,8,[zN ++ zN],2⟩),(8,1,⟨26,4,[eR FO],2⟩),(9,1,⟨26,4,[eR MO],2⟩),(35,1,⟨132,1,[[.clo 173 [.dref (eA a) 0]],[.clo 206 [.dref (eA a) 0]]],2⟩)]) (fun i => 2 - i) 0 (.inl ⟨rfl,hG⟩) ⟨rfl,rfl,rfl,rfl,rfl,rfl,rfl,rfl,rfl,rfl,rfl,rfl,rfl,rfl,trivial⟩ ?_
 intro i s hi
 rcases hi with ⟨rfl,hG⟩ | ⟨rfl,hG⟩ | ⟨rfl,hG⟩
 ·cases oR with
  |none =>
   repeat refine ac rfl ?_
   refine bx rfl rfl (bc rfl rfl rfl rfl rfl rfl rfl (by decide) (by decide)) ?_
   repeat refine ac rfl ?_
   refine bM [12] [10,11] (by decide +kernel) ?_
   repeat refine ac rfl ?_
   refine aq rfl rfl rfl sR rfl rfl ?_
   repeat refine ac rfl ?_
   refine aq rfl rfl rfl m1 rfl rfl ?_
   repeat refine ac rfl ?_
   refine am 8 [51,52,53,54,55,56,57,58] (by decide +kernel) ?_
   repeat refine ac rfl ?_
   exact ⟨1,.inr (.inl ⟨rfl,hG⟩),by decide,rfl,rfl,rfl,rfl,rfl,rfl,rfl,rfl,rfl,rfl,rfl,rfl,rfl,rfl,trivial⟩
  |some d =>
   have k1 := m2 d rfl
   have k2 := m3 d rfl
   rw [kU] at m1
   rw [tD] at hG
   by_cases hbal : (bd b).Bal (z + d.1) (t + d.2)
   ·rw [decide_eq_true hbal] at k2
    rw [if_pos hbal] at hG
    try simp only at hG
    subst hG
    rw [yE]
    dsimp only
    generalize ofQ (z + d.1) = Y1 at *
    generalize ofQ (t + d.2) = Y2 at *
    generalize ofQ d.1 = Y3 at *
    generalize ofQ d.2 = Y4 at *
    repeat refine ac rfl ?_
    refine bx rfl rfl (bc rfl rfl rfl rfl rfl rfl rfl (by decide) (by decide)) ?_
    repeat refine ac rfl ?_
    refine bM [12] [10,11] (by decide +kernel) ?_
    repeat refine ac rfl ?_
    refine aq rfl rfl rfl sR rfl rfl ?_
    repeat refine ac rfl ?_
    refine aq rfl rfl rfl m1 rfl rfl ?_
    repeat refine ac rfl ?_
    refine am 8 [51,52,53,54,55,56,57,58] (by decide +kernel) ?_
    repeat refine ac rfl ?_
    refine aq rfl rfl rfl k1 rfl rfl ?_
    repeat refine ac rfl ?_
    refine aT rfl rfl rfl k2 rfl rfl rfl ?_
    repeat refine ac rfl ?_
    refine aq rfl rfl rfl k1 rfl rfl ?_
    repeat refine ac rfl ?_
    exact aF rfl rfl rfl
   ·rw [decide_eq_false hbal] at k2
    rw [if_neg hbal] at hG
    try simp only at hG
    generalize ofQ (z + d.1) = Y1 at *
    generalize ofQ (t + d.2) = Y2 at *
    generalize ofQ d.1 = Y3 at *
    generalize ofQ d.2 = Y4 at *
    repeat refine ac rfl ?_
    refine bx rfl rfl (bc rfl rfl rfl rfl rfl rfl rfl (by decide) (by decide)) ?_
    repeat refine ac rfl ?_
    refine bM [12] [10,11] (by decide +kernel) ?_
    repeat refine ac rfl ?_
    refine aq rfl rfl rfl sR rfl rfl ?_
    repeat refine ac rfl ?_
    refine aq rfl rfl rfl m1 rfl rfl ?_
    repeat refine ac rfl ?_
    refine am 8 [51,52,53,54,55,56,57,58] (by decide +kernel) ?_
    repeat refine ac rfl ?_
    refine aq rfl rfl rfl k1 rfl rfl ?_
    repeat refine ac rfl ?_
    refine aT rfl rfl rfl k2 rfl rfl rfl ?_
    repeat refine ac rfl ?_
    exact ⟨1,.inr (.inl ⟨rfl,hG⟩),by decide,rfl,rfl,rfl,rfl,rfl,rfl,rfl,rfl,rfl,rfl,rfl,rfl,rfl,rfl,trivial⟩
 ·cases oL with
  |none =>
   repeat refine ac rfl ?_
   refine bx rfl rfl (bc rfl rfl rfl rfl rfl rfl rfl (by decide) (by decide)) ?_
   repeat refine ac rfl ?_
   refine bM [12] [10,11] (by decide +kernel) ?_
   repeat refine ac rfl ?_
   refine aq rfl rfl rfl sL rfl rfl ?_
   repeat refine ac rfl ?_
   refine aq rfl rfl rfl l1 rfl rfl ?_
   repeat refine ac rfl ?_
   refine am 8 [51,52,53,54,55,56,57,58] (by decide +kernel) ?_
   repeat refine ac rfl ?_
   exact ⟨2,.inr (.inr ⟨rfl,hG.symm⟩),by decide,rfl,rfl,rfl,rfl,rfl,rfl,rfl,rfl,rfl,rfl,rfl,rfl,rfl,rfl,trivial⟩
  |some d =>
   have k1 := l2 d rfl
   have k2 := l3 d rfl
   rw [kU] at l1
   rw [tD] at hG
   by_cases hbal : (bd b).Bal (z + d.1) (t + d.2)
   ·rw [decide_eq_true hbal] at k2
    rw [if_pos hbal] at hG
    try simp only at hG
    subst hG
    rw [yE]
    dsimp only
    generalize ofQ (z + d.1) = Y1 at *
    generalize ofQ (t + d.2) = Y2 at *
    generalize ofQ d.1 = Y3 at *
    generalize ofQ d.2 = Y4 at *
    repeat refine ac rfl ?_
    refine bx rfl rfl (bc rfl rfl rfl rfl rfl rfl rfl (by decide) (by decide)) ?_
    repeat refine ac rfl ?_
    refine bM [12] [10,11] (by decide +kernel) ?_
    repeat refine ac rfl ?_
    refine aq rfl rfl rfl sL rfl rfl ?_
    repeat refine ac rfl ?_
    refine aq rfl rfl rfl l1 rfl rfl ?_
    repeat refine ac rfl ?_
    refine am 8 [51,52,53,54,55,56,57,58] (by decide +kernel) ?_
    repeat refine ac rfl ?_
    refine aq rfl rfl rfl k1 rfl rfl ?_
    repeat refine ac rfl ?_
    refine aT rfl rfl rfl k2 rfl rfl rfl ?_
    repeat refine ac rfl ?_
    refine aq rfl rfl rfl k1 rfl rfl ?_
    repeat refine ac rfl ?_
    exact aF rfl rfl rfl
   ·rw [decide_eq_false hbal] at k2
    rw [if_neg hbal] at hG
    try simp only at hG
    generalize ofQ (z + d.1) = Y1 at *
    generalize ofQ (t + d.2) = Y2 at *
    generalize ofQ d.1 = Y3 at *
    generalize ofQ d.2 = Y4 at *
    repeat refine ac rfl ?_
    refine bx rfl rfl (bc rfl rfl rfl rfl rfl rfl rfl (by decide) (by decide)) ?_
    repeat refine ac rfl ?_
    refine bM [12] [10,11] (by decide +kernel) ?_
    repeat refine ac rfl ?_
    refine aq rfl rfl rfl sL rfl rfl ?_
    repeat refine ac rfl ?_
    refine aq rfl rfl rfl l1 rfl rfl ?_
    repeat refine ac rfl ?_
    refine am 8 [51,52,53,54,55,56,57,58] (by decide +kernel) ?_
    repeat refine ac rfl ?_
    refine aq rfl rfl rfl k1 rfl rfl ?_
    repeat refine ac rfl ?_
    refine aT rfl rfl rfl k2 rfl rfl rfl ?_
    repeat refine ac rfl ?_
    exact ⟨2,.inr (.inr ⟨rfl,hG.symm⟩),by decide,rfl,rfl,rfl,rfl,rfl,rfl,rfl,rfl,rfl,rfl,rfl,rfl,rfl,rfl,trivial⟩
 ·subst hG
  repeat refine ac rfl ?_
  exact aF rfl rfl rfl
def rV (s : SR) (z t : Rat) : Rat := bg s.k.m (jL s.k.s (yQ s z t) s.k.S.length)
def lV (s : SR) (z t : Rat) : Rat := bg s.k.m (nZ s.k.s (yQ s z t) s.k.S.length)
def rc (z t A B : Rat) (s : SR) : Bool := decide (¬ ((0 < A + B * (s.x : Rat) ∧ rV s z t ≠ 0) ∨ (A + B * (s.x : Rat) < 0 ∧ lV s z t ≠ 0)))
def gC (l : List SR) (z t A B : Rat) : Bool := l.all (rc z t A B)
theorem rD {p : Rat} (h : 0 < p) : sgn p = 1 := by rw [sgn,if_neg (by grind),if_neg (by grind)]
theorem rC {p : Rat} (h : p < 0) : sgn p = -1 := by rw [sgn,if_pos h]
theorem lq {p : Rat} (h : p = 0) : sgn p = 0 := (jp p).2 h
theorem v_ {p : Rat} (h : p ≠ 0) : sgn p = 1 ∨ sgn p = -1 := by
 rcases Classical.em (0 < p) with h1 | h1
 ·exact .inl (rD h1)
 ·exact .inr (rC (by grind))
set_option maxRecDepth 20000 in
theorem uG (b : BR) (hb : b.Ok) (a : AR) {z t : Rat} {n m : Nat} [ha : Va a z t n m] (hn : n + m ≤ 50000) (r : AR) {A B : Rat} {n' m' : Nat} (hr : Va r A B n' m') (h2 : n' ≤ 100000) (h3 : m' ≤ 100000) : Ret Tryz.prog .shared 170 [.agg (eB b),.agg (eA a),.agg (eA r)] (.bool (gC b.l z t A B)) := by
 have h6 := mG a
 have h7 := oN a
 have hck := hb.chkL
 have hl := hb.lim.l
 have h12 := hb.few.1
 have hrz := hr.z
 have hrt := hr.t
 generalize hF : gC b.l z t A B = F
 rw [gC] at hF
 obtain ⟨w,ba,l⟩ := b
 simp only at *
 have hml : (l.map eS).length = l.length := by simp
 obtain ⟨rz,rt⟩ := r
 simp only at hrz hrt
 refine Ret.of_pwp layOk mixed Go.Proofs.Tryz.func170 rfl (by decide) rfl rfl ?_
 repeat refine ac rfl ?_
 refine ax (fun i : Nat => i ≤ l.length ∧ (l.drop i).all (rc z t A B) = l.all (rc z t A B)) (fun i => [(4,.ptr 4 1 0 0),(5,.ptr 5 1 0 0),(11,.sl (l.map eS)),(12,I l.length),(13,I (i : Nat))])
  (fun i => [(4,1,⟨40,8,[eA a],2⟩),(5,1,⟨62,8,[eA ⟨rz,rt⟩],2⟩)]) (fun i => l.length - i) 0 ⟨Nat.zero_le _,by rw [List.drop_zero]⟩ ⟨rfl,rfl,rfl,by rw [← hml];rfl,rfl,rfl,rfl,trivial⟩ ?_
 intro i s ⟨hi,hall⟩
 repeat refine ac rfl ?_
 refine ae rfl ?_ ?_<;>intro h
 ·have hlt : i < l.length := by have := of_decide_eq_true h;omega
  clear h
  obtain ⟨x,hx⟩ := aM hlt
  have hxm := List.mem_of_getElem? hx
  have hxl := hl.1 x hxm
  have hkc := bZ hck x hxm
  have zx : Zb x.x := aN hxl.x.1 hxl.x.2
  have hw := f7 i
  have hdr : (l.drop i).all (rc z t A B) = (rc z t A B x && (l.drop (i + 1)).all (rc z t A B)) := by
   obtain ⟨hl1,h2⟩ := List.getElem?_eq_some_iff.1 hx
   rw [List.drop_eq_getElem_cons hl1,h2,List.all_cons]
  rw [hdr] at hall
  have hbd : rc z t A B x = rc z t A B x := rfl
  conv at hbd => rhs;rw [rc]
  have e1 := aS x.x hxl.x
  have e2 := dV rt (ofQ (x.x : Rat)) (hx := hrt) (by omega) (by decide)
  have v2 : Vq (ofQ (B * (x.x : Rat))) (B * (x.x : Rat)) (m' + 1 + 4) := Vq.ofQ (h := @HQ.mul _ _ (m' + 1) 4 hrt.hq HQ.int)
  have e3 := dj rz (ofQ (B * (x.x : Rat))) (hx := hrz) (hy := v2) (by omega) (by omega)
  have v3 : Vq (ofQ (A + B * (x.x : Rat))) (A + B * (x.x : Rat)) (n' + 1 + (m' + 1 + 4) + 1) := Vq.ofQ (h := @HQ.add _ _ (n' + 1) _ hrz.hq (b8 v2))
  have e4 := lr (ofQ (A + B * (x.x : Rat))) (hx := v3) (by omega)
  have cr := li x hxl hkc a (z := z) (t := t) (by omega)
  have cl := mh x hxl hkc a (z := z) (t := t) (by omega)
  rw [show bg x.k.m (jL x.k.s (yQ x z t) x.k.S.length) = rV x z t from rfl] at cr
  have vr : Vq (ofQ (rV x z t)) (rV x z t) 13 := Vq.ofQ (h := (l0 x.k hxl.k _).hq)
  have vl : Vq (sN x.k (yQ x z t) x.k.S.length) (lV x z t) 12 := uT hxl.k _ _
  have sr := lr (ofQ (rV x z t)) (hx := vr) (by decide)
  have sl := lr (sN x.k (yQ x z t) x.k.S.length) (hx := vl) (by decide)
  generalize ofQ (rV x z t) = RV at *
  generalize sN x.k (yQ x z t) x.k.S.length = LV at *
  generalize rc z t A B x = ok at *
  generalize ofQ (A + B * (x.x : Rat)) = D1 at *
  generalize ofQ (B * (x.x : Rat)) = D2 at *
  generalize ofQ (x.x : Rat) = D3 at *
  rcases Classical.em (0 < A + B * (x.x : Rat)) with hd | hd
  ·rw [rD hd] at e4
   rcases Classical.em (rV x z t = 0) with hz | hz
   ·rw [lq hz] at sr
    have hbad : ok = true := by rw [hbd,decide_eq_true];rintro (⟨_,h⟩ | ⟨h,_⟩);exact h hz;grind
    rw [hbad,Bool.true_and] at hall
    repeat refine ac rfl ?_
    refine bm rfl rfl rfl rfl rfl rfl rfl hx rfl ?_
    repeat refine ac rfl ?_
    refine am 11 [17,18,19,20,21,22,23,24,25,26,9] (by decide +kernel) ?_
    repeat refine ac rfl ?_
    refine aq rfl rfl rfl e1 rfl rfl ?_
    repeat refine ac rfl ?_
    refine aq rfl rfl rfl e2 rfl rfl ?_
    repeat refine ac rfl ?_
    refine aq rfl rfl rfl e3 rfl rfl ?_
    repeat refine ac rfl ?_
    refine aT rfl rfl rfl e4 rfl rfl rfl ?_
    repeat refine ac rfl ?_
    refine am 22 [27,28,29,30,31,32,33,34,35,36,37,38,39,40,41,42,43,44,45,46,47,48] (by decide +kernel) ?_
    repeat refine ac rfl ?_
    refine aq rfl rfl rfl h6 rfl rfl ?_
    repeat refine ac rfl ?_
    refine aq rfl rfl rfl cr rfl rfl ?_
    repeat refine ac rfl ?_
    refine aT rfl rfl rfl sr rfl rfl rfl ?_
    repeat refine ac rfl ?_
    exact ⟨i + 1,⟨by omega,hall⟩,by omega,rfl,rfl,rfl,rfl,congrArg I hw,rfl,rfl,trivial⟩
   ·have hbad : ok = false := by rw [hbd,decide_eq_false];exact fun h => h (.inl ⟨hd,hz⟩)
    rw [hbad,Bool.false_and] at hall
    rcases v_ hz with hs | hs
    ·rw [hs] at sr
     repeat refine ac rfl ?_
     refine bm rfl rfl rfl rfl rfl rfl rfl hx rfl ?_
     repeat refine ac rfl ?_
     refine am 11 [17,18,19,20,21,22,23,24,25,26,9] (by decide +kernel) ?_
     repeat refine ac rfl ?_
     refine aq rfl rfl rfl e1 rfl rfl ?_
     repeat refine ac rfl ?_
     refine aq rfl rfl rfl e2 rfl rfl ?_
     repeat refine ac rfl ?_
     refine aq rfl rfl rfl e3 rfl rfl ?_
     repeat refine ac rfl ?_
     refine aT rfl rfl rfl e4 rfl rfl rfl ?_
     repeat refine ac rfl ?_
     refine am 22 [27,28,29,30,31,32,33,34,35,36,37,38,39,40,41,42,43,44,45,46,47,48] (by decide +kernel) ?_
     repeat refine ac rfl ?_
     refine aq rfl rfl rfl h6 rfl rfl ?_
     repeat refine ac rfl ?_
     refine aq rfl rfl rfl cr rfl rfl ?_
     repeat refine ac rfl ?_
     refine aT rfl rfl rfl sr rfl rfl rfl ?_
     repeat refine ac rfl ?_
     exact bj rfl rfl (by rw [← hF,← hall])
    ·rw [hs] at sr
     repeat refine ac rfl ?_
     refine bm rfl rfl rfl rfl rfl rfl rfl hx rfl ?_
     repeat refine ac rfl ?_
     refine am 11 [17,18,19,20,21,22,23,24,25,26,9] (by decide +kernel) ?_
     repeat refine ac rfl ?_
     refine aq rfl rfl rfl e1 rfl rfl ?_
     repeat refine ac rfl ?_
     refine aq rfl rfl rfl e2 rfl rfl ?_
     repeat refine ac rfl ?_
     refine aq rfl rfl rfl e3 rfl rfl ?_
     repeat refine ac rfl ?_
     refine aT rfl rfl rfl e4 rfl rfl rfl ?_
     repeat refine ac rfl ?_
     refine am 22 [27,28,29,30,31,32,33,34,35,36,37,38,39,40,41,42,43,44,45,46,47,48] (by decide +kernel) ?_
     repeat refine ac rfl ?_
     refine aq rfl rfl rfl h6 rfl rfl ?_
     repeat refine ac rfl ?_
     refine aq rfl rfl rfl cr rfl rfl ?_
     repeat refine ac rfl ?_
     refine aT rfl rfl rfl sr rfl rfl rfl ?_
     repeat refine ac rfl ?_
     exact bj rfl rfl (by rw [← hF,← hall])
  ·rcases Classical.em (A + B * (x.x : Rat) < 0) with hd2 | hd2
   ·rw [rC hd2] at e4
    rcases Classical.em (lV x z t = 0) with hz | hz
    ·rw [lq hz] at sl
     have hbad : ok = true := by rw [hbd,decide_eq_true];rintro (⟨h,_⟩ | ⟨_,h⟩);exact hd h;exact h hz
     rw [hbad,Bool.true_and] at hall
     repeat refine ac rfl ?_
     refine bm rfl rfl rfl rfl rfl rfl rfl hx rfl ?_
     repeat refine ac rfl ?_
     refine am 11 [17,18,19,20,21,22,23,24,25,26,9] (by decide +kernel) ?_
     repeat refine ac rfl ?_
     refine aq rfl rfl rfl e1 rfl rfl ?_
     repeat refine ac rfl ?_
     refine aq rfl rfl rfl e2 rfl rfl ?_
     repeat refine ac rfl ?_
     refine aq rfl rfl rfl e3 rfl rfl ?_
     repeat refine ac rfl ?_
     refine aT rfl rfl rfl e4 rfl rfl rfl ?_
     repeat refine ac rfl ?_
     refine am 22 [27,28,29,30,31,32,33,34,35,36,37,38,39,40,41,42,43,44,45,46,47,48] (by decide +kernel) ?_
     repeat refine ac rfl ?_
     refine aq rfl rfl rfl h7 rfl rfl ?_
     repeat refine ac rfl ?_
     refine aq rfl rfl rfl cl rfl rfl ?_
     repeat refine ac rfl ?_
     refine aT rfl rfl rfl sl rfl rfl rfl ?_
     repeat refine ac rfl ?_
     exact ⟨i + 1,⟨by omega,hall⟩,by omega,rfl,rfl,rfl,rfl,congrArg I hw,rfl,rfl,trivial⟩
    ·have hbad : ok = false := by rw [hbd,decide_eq_false];exact fun h => h (.inr ⟨hd2,hz⟩)
     rw [hbad,Bool.false_and] at hall
     rcases v_ hz with hs | hs
     ·rw [hs] at sl
      repeat refine ac rfl ?_
      refine bm rfl rfl rfl rfl rfl rfl rfl hx rfl ?_
      repeat refine ac rfl ?_
      refine am 11 [17,18,19,20,21,22,23,24,25,26,9] (by decide +kernel) ?_
      repeat refine ac rfl ?_
      refine aq rfl rfl rfl e1 rfl rfl ?_
      repeat refine ac rfl ?_
      refine aq rfl rfl rfl e2 rfl rfl ?_
      repeat refine ac rfl ?_
      refine aq rfl rfl rfl e3 rfl rfl ?_
      repeat refine ac rfl ?_
      refine aT rfl rfl rfl e4 rfl rfl rfl ?_
      repeat refine ac rfl ?_
      refine am 22 [27,28,29,30,31,32,33,34,35,36,37,38,39,40,41,42,43,44,45,46,47,48] (by decide +kernel) ?_
      repeat refine ac rfl ?_
      refine aq rfl rfl rfl h7 rfl rfl ?_
      repeat refine ac rfl ?_
      refine aq rfl rfl rfl cl rfl rfl ?_
      repeat refine ac rfl ?_
      refine aT rfl rfl rfl sl rfl rfl rfl ?_
      repeat refine ac rfl ?_
      exact bj rfl rfl (by rw [← hF,← hall])
     ·rw [hs] at sl
      repeat refine ac rfl ?_
      refine bm rfl rfl rfl rfl rfl rfl rfl hx rfl ?_
      repeat refine ac rfl ?_
      refine am 11 [17,18,19,20,21,22,23,24,25,26,9] (by decide +kernel) ?_
      repeat refine ac rfl ?_
      refine aq rfl rfl rfl e1 rfl rfl ?_
      repeat refine ac rfl ?_
      refine aq rfl rfl rfl e2 rfl rfl ?_
      repeat refine ac rfl ?_
      refine aq rfl rfl rfl e3 rfl rfl ?_
      repeat refine ac rfl ?_
      refine aT rfl rfl rfl e4 rfl rfl rfl ?_
      repeat refine ac rfl ?_
      refine am 22 [27,28,29,30,31,32,33,34,35,36,37,38,39,40,41,42,43,44,45,46,47,48] (by decide +kernel) ?_
      repeat refine ac rfl ?_
      refine aq rfl rfl rfl h7 rfl rfl ?_
      repeat refine ac rfl ?_
      refine aq rfl rfl rfl cl rfl rfl ?_
      repeat refine ac rfl ?_
      refine aT rfl rfl rfl sl rfl rfl rfl ?_
      repeat refine ac rfl ?_
      exact bj rfl rfl (by rw [← hF,← hall])
   ·rw [lq (show A + B * (x.x : Rat) = 0 by grind)] at e4
    have hbad : ok = true := by rw [hbd,decide_eq_true];rintro (⟨h,_⟩ | ⟨h,_⟩);exact hd h;exact hd2 h
    rw [hbad,Bool.true_and] at hall
    repeat refine ac rfl ?_
    refine bm rfl rfl rfl rfl rfl rfl rfl hx rfl ?_
    repeat refine ac rfl ?_
    refine am 11 [17,18,19,20,21,22,23,24,25,26,9] (by decide +kernel) ?_
    repeat refine ac rfl ?_
    refine aq rfl rfl rfl e1 rfl rfl ?_
    repeat refine ac rfl ?_
    refine aq rfl rfl rfl e2 rfl rfl ?_
    repeat refine ac rfl ?_
    refine aq rfl rfl rfl e3 rfl rfl ?_
    repeat refine ac rfl ?_
    refine aT rfl rfl rfl e4 rfl rfl rfl ?_
    repeat refine ac rfl ?_
    refine am 22 [27,28,29,30,31,32,33,34,35,36,37,38,39,40,41,42,43,44,45,46,47,48] (by decide +kernel) ?_
    repeat refine ac rfl ?_
    exact ⟨i + 1,⟨by omega,hall⟩,by omega,rfl,rfl,rfl,rfl,congrArg I hw,rfl,rfl,trivial⟩
 ·have hie : i = l.length := by have := of_decide_eq_false h;omega
  clear h
  rw [hie,List.drop_length,List.all_nil] at hall
  rw [← hall] at hF
  subst hF
  repeat refine ac rfl ?_
  exact bj rfl rfl rfl
theorem pV (b : BR) (hb : b.Ok) (a : AR) {z t : Rat} {n m : Nat} [ha : Va a z t n m] (hn : n + m ≤ 50000) (r : AR) {A B : Rat} {n' m' : Nat} (hr : Va r A B n' m') (h2 : n' ≤ 100000) (h3 : m' ≤ 100000) : Ret Tryz.prog .shared 169 [.agg (eA r),.dref (eB b) 0,.dref (eA a) 0] (.bool (gC b.l z t A B)) := by
 have h1 := uG b hb a (z := z) (t := t) hn r hr h2 h3
 generalize gC b.l z t A B = F at *
 refine Ret.of_pwp layOk mixed Go.Proofs.Tryz.func169 rfl (by decide) rfl rfl ?_
 repeat refine ac rfl ?_
 refine aT rfl rfl rfl h1 rfl rfl rfl ?_
 repeat refine ac rfl ?_
 exact bj rfl rfl rfl
def kM (p : AR → Bool) : List AR → Nat → Int
 |[],_ => -1
 |d :: l,i => if p d = true then (i : Int) else kM p l (i + 1)
theorem oD (p : AR → Bool) : ∀ (l : List AR) (i : Nat),decide (0 ≤ kM p l i) = l.any p
 |[],i => rfl
 |d :: l,i => by
  rw [kM,List.any_cons]
  cases h : p d
  ·rw [if_neg (by decide),oD p l (i + 1),Bool.false_or]
  ·rw [if_pos rfl,Bool.true_or,decide_eq_true];omega
theorem sD (p : AR → Bool) {l : List AR} {i : Nat} {x : AR} (h : l[i]? = some x) : kM p (l.drop i) i = if p x = true then (i : Int) else kM p (l.drop (i + 1)) (i + 1) := by
 obtain ⟨hl,rfl⟩ := List.getElem?_eq_some_iff.1 h
 rw [List.drop_eq_getElem_cons hl,kM]
set_option maxRecDepth 20000 in
theorem pS (T : List AR) (hT : T.length ≤ 1000) (f : FuncId) (c1 c2 : List PV) (p : AR → Bool) (hg : ∀ d ∈ T,Ret Tryz.prog .shared f [.agg (eA d),.dref c1 0,.dref c2 0] (.bool (p d))) : Ret Tryz.prog .shared 195 [.sl (T.map eA),.clo f [.dref c1 0,.dref c2 0]] (I (kM p T 0)) := by
 have hml : (T.map eA).length = T.length := by simp
 generalize hF : kM p T 0 = F
 refine Ret.of_pwp layOk mixed Go.Proofs.Tryz.func195 rfl (by decide) rfl rfl ?_
 repeat refine ac rfl ?_
 refine ax (fun i : Nat => i ≤ T.length ∧ kM p (T.drop i) i = F) (fun i => [(0,.sl (T.map eA)),(1,.clo f [.dref c1 0,.dref c2 0]),(7,I T.length),(8,I (i : Nat))])
  (fun _ => []) (fun i => T.length - i) 0 ⟨Nat.zero_le _,by rw [List.drop_zero];exact hF⟩ ⟨rfl,rfl,by rw [← hml];rfl,rfl,trivial⟩ ?_
 intro i s ⟨hi,hall⟩
 repeat refine ac rfl ?_
 refine ae rfl ?_ ?_<;>intro h
 ·have hlt : i < T.length := by have := of_decide_eq_true h;omega
  clear h
  obtain ⟨x,hx⟩ := aM hlt
  have hgx := hg x (List.mem_of_getElem? hx)
  have hw := f7 i
  rw [sD p hx] at hall
  cases hp : p x with
  |true =>
   rw [hp] at hgx
   rw [if_pos hp] at hall
   repeat refine ac rfl ?_
   refine bm rfl rfl rfl rfl rfl rfl rfl hx rfl ?_
   repeat refine ac rfl ?_
   refine aT rfl rfl rfl hgx rfl rfl rfl ?_
   repeat refine ac rfl ?_
   exact aO rfl rfl (by rw [← hall])
  |false =>
   rw [hp] at hgx
   rw [if_neg (by rw [hp];decide)] at hall
   repeat refine ac rfl ?_
   refine bm rfl rfl rfl rfl rfl rfl rfl hx rfl ?_
   repeat refine ac rfl ?_
   refine aT rfl rfl rfl hgx rfl rfl rfl ?_
   repeat refine ac rfl ?_
   exact ⟨i + 1,⟨by omega,hall⟩,by omega,rfl,rfl,rfl,congrArg I hw,trivial⟩
 ·have hie : i = T.length := by have := of_decide_eq_false h;omega
  clear h
  rw [hie,List.drop_length,kM] at hall
  rw [← hall]
  repeat refine ac rfl ?_
  exact aO rfl rfl rfl
theorem lL (T : List AR) (hT : T.length ≤ 1000) (f : FuncId) (c1 c2 : List PV) (p : AR → Bool) (hg : ∀ d ∈ T,Ret Tryz.prog .shared f [.agg (eA d),.dref c1 0,.dref c2 0] (.bool (p d))) : Ret Tryz.prog .shared 168 [.sl (T.map eA),.clo f [.dref c1 0,.dref c2 0]] (.bool (T.any p)) := by
 have h1 := pS T hT f c1 c2 p hg
 rw [← oD p T 0]
 generalize kM p T 0 = F at *
 refine Ret.of_pwp layOk mixed Go.Proofs.Tryz.func168 rfl (by decide) rfl rfl ?_
 repeat refine ac rfl ?_
 refine aT rfl rfl rfl h1 rfl rfl rfl ?_
 repeat refine ac rfl ?_
 exact bj rfl rfl rfl
set_option maxRecDepth 20000 in
theorem qE {K : St → Prop} {s : St} {d g2 g3 : Nat} {R2 R3 : Cont} {x : Operand} {tys : Array TypeId} {ty : TypeId} {pos : String} {af : Array Edge} (l : List SR) (hl : fE l) (h12 : l.length ≤ 1000) (hck : br l = 0)
  (hx : s.ev x = .sl (l.map eS)) (ho : FitO s [(2,g2,R2),(1003,g3,R3)])
  (hK : ∀ (s1 : St) (g : Nat),K (({ reg := s.reg,own := (s1.over [] [(2,g2,R2),(1003,g3,R3),(3,g,⟨62,8,(cG l).map eA,1⟩)]).own } : St).putR d (.als 3 g 0 ((cG l).map eA).length))) :
  Sm Tryz.prog lay.get s ⟨some d,.call ⟨.value (.func 94),#[x],tys⟩,ty,pos,af,none⟩ K := by
 have hp := kX l hl h12
 have hrg : ∀ x ∈ bw l,-1000000 ≤ x ∧ x ≤ 1000000 := fun x hx => ek hck hx
 have hpl := fj l
 have w1 := aS 1 ⟨by decide,by decide⟩
 have w2 := aS (-1) ⟨by decide,by decide⟩
 rw [cG] at hK
 generalize bw l = Pl at *
 have hml : (Pl.map eN).length = Pl.length := by simp
 have hrows : ∀ (k : Nat) x,Pl[k]? = some x → ((Pl.take (k + 1)).map jS).map eA = ((Pl.take k).map jS).map eA ++ [eA (jS x)] := fun k x hx => by rw [cq hx,List.map_append,List.map_append];rfl
 have hrows2 : ∀ (k : Nat) x,Pl[k]? = some x → (Pl.map jS ++ (Pl.take (k + 1)).map uu).map eA = (Pl.map jS ++ (Pl.take k).map uu).map eA ++ [eA (uu x)] := fun k x hx => by rw [cq hx];simp [List.map_append]
 refine bX layOk rfl rfl Tryz.func94 rfl (by decide) rfl rfl ?_
 show PWP _ _ _ _ (bF s (([x] : List Operand).map s.ev ++ []))
 rw [show (([x] : List Operand).map s.ev ++ ([] : List PV)) = [.sl (l.map eS)] by simp [hx]]
 rw [show bF s [.sl (l.map eS)] = bF (s.over [] [(2,g2,R2),(1003,g3,R3)]) [.sl (l.map eS)] by rw [Fit.over (l := []) ho]]
 ((repeat (first | refine aR ?_ | refine bV ?_ | refine bR ?_ | refine bQ ?_));refine aY ?_)
 refine gy rfl trivial ?_
 ((repeat (first | refine aR ?_ | refine bV ?_ | refine bR ?_ | refine bQ ?_));refine aY ?_)
 (first | refine ay (eE 62 8 1 rfl rfl ?_) | refine ay (ez 62 8 1 rfl rfl ?_))
 repeat refine ac rfl ?_
 refine aq rfl rfl rfl hp rfl rfl ?_
 repeat refine ac rfl ?_
 refine dJ [(0,.sl (l.map eS)),(3,.als 3 ((s.own 3).1 + 1) 0 0),(9,.sl (Pl.map eN)),(10,I (Pl.map eN).length),(11,I ((0 : Nat) : Int))] [(2,g2,R2),(1003,g3,R3),(3,(s.own 3).1 + 1,⟨62,8,[],1⟩)] ⟨rfl,rfl,rfl,rfl,rfl,rfl,rfl,rfl,trivial⟩ ?_
 generalize (s.own 3).1 + 1 = g
 rw [hml]
 intro s0
 refine ax (fun k => k ≤ Pl.length) (fun k => [(0,.sl (l.map eS)),(3,.als 3 (g + k) 0 (((Pl.take k).map jS).map eA).length),(9,.sl (Pl.map eN)),(10,I Pl.length),(11,I k)]) (fun k => [(2,g2,R2),(1003,g3,R3),(3,g + k,⟨62,8,((Pl.take k).map jS).map eA,1⟩)]) (fun k => Pl.length - k) 0 (Nat.zero_le _) ⟨rfl,rfl,rfl,rfl,rfl,rfl,rfl,rfl,trivial⟩ ?_
 intro k s1 hk
 repeat refine ac rfl ?_
 refine ae rfl ?_ ?_<;>intro h
 ·have hlt : k < Pl.length := by have := of_decide_eq_true h;omega
  clear h
  obtain ⟨x,hx⟩ := aM hlt
  have hr := hrg x (List.mem_of_getElem? hx)
  have hnx := aS (-x) ⟨by omega,by omega⟩
  have hw := f7 k
  have hn : IntKind.i64.wrap (0 - x) = -x := by rw [wrap_i64 (by omega) (by omega)];omega
  repeat refine ac rfl ?_
  refine bm rfl rfl rfl rfl rfl rfl rfl hx rfl ?_
  repeat refine ac rfl ?_
  rw [hn]
  refine aq rfl rfl rfl hnx rfl rfl ?_
  repeat refine ac rfl ?_
  refine aq rfl rfl rfl w1 rfl rfl ?_
  repeat refine ac rfl ?_
  refine ay (bb 1 rfl rfl rfl rfl rfl rfl rfl rfl rfl rfl rfl (by repeat' constructor) rfl ?_)
  repeat refine ac rfl ?_
  refine ay (bC 1 rfl rfl rfl rfl rfl rfl rfl rfl rfl rfl rfl (by repeat' constructor) (by intro row hr;first | (simp at hr;subst hr;rfl) | simp at hr) rfl rfl (by simp;omega) (by simp;omega) ?_)
  repeat refine ac rfl ?_
  refine ⟨k + 1,hlt,by omega,rfl,?_,rfl,rfl,congrArg I hw,rfl,rfl,?_,trivial⟩
  ·rw [hrows k x hx];rfl
  ·rw [hrows k x hx];rfl
 ·have hge : k = Pl.length := by have := of_decide_eq_false h;omega
  subst hge
  clear h
  rw [List.take_length]
  repeat refine ac rfl ?_
  refine aq rfl rfl rfl hp rfl rfl ?_
  repeat refine ac rfl ?_
  refine ax (fun k => k ≤ Pl.length) (fun k => [(3,.als 3 (g + Pl.length + k) 0 ((Pl.map jS ++ (Pl.take k).map uu).map eA).length),(25,.sl (Pl.map eN)),(26,I Pl.length),(27,I k)]) (fun k => [(2,g2,R2),(1003,g3,R3),(3,g + Pl.length + k,⟨62,8,(Pl.map jS ++ (Pl.take k).map uu).map eA,1⟩)]) (fun k => Pl.length - k) 0 (Nat.zero_le _) ⟨by rw [List.take_zero,List.map_nil,List.append_nil];rfl,rfl,by rw [← hml];rfl,rfl,rfl,rfl,by rw [List.take_zero,List.map_nil,List.append_nil];rfl,trivial⟩ ?_
  intro k s2 hk
  repeat refine ac rfl ?_
  refine ae rfl ?_ ?_<;>intro h
  ·have hlt : k < Pl.length := by have := of_decide_eq_true h;omega
   clear h
   obtain ⟨x,hx⟩ := aM hlt
   have hr := hrg x (List.mem_of_getElem? hx)
   have hnx := aS x ⟨by omega,by omega⟩
   have hw := f7 k
   repeat refine ac rfl ?_
   refine bm rfl rfl rfl rfl rfl rfl rfl hx rfl ?_
   repeat refine ac rfl ?_
   refine aq rfl rfl rfl hnx rfl rfl ?_
   repeat refine ac rfl ?_
   refine aq rfl rfl rfl w2 rfl rfl ?_
   repeat refine ac rfl ?_
   refine ay (bb 1 rfl rfl rfl rfl rfl rfl rfl rfl rfl rfl rfl (by repeat' constructor) rfl ?_)
   repeat refine ac rfl ?_
   refine ay (bC 1 rfl rfl rfl rfl rfl rfl rfl rfl rfl rfl rfl (by repeat' constructor) (by intro row hr;first | (simp at hr;subst hr;rfl) | simp at hr) rfl rfl (by simp;omega) (by simp;omega) ?_)
   repeat refine ac rfl ?_
   refine ⟨k + 1,hlt,by omega,?_,rfl,rfl,congrArg I hw,rfl,rfl,?_,trivial⟩
   ·rw [hrows2 k x hx];rfl
   ·rw [hrows2 k x hx];rfl
  ·have hge : k = Pl.length := by have := of_decide_eq_false h;omega
   subst hge
   clear h
   rw [List.take_length]
   repeat refine ac rfl ?_
   exact nr rfl rfl (hK s2 (g + Pl.length + Pl.length))
def yH : AR := ⟨ofQ ((-1 : Int) : Rat),ofQ ((0 : Int) : Rat)⟩
def fN (l : List SR) : List AR := cG l ++ [cN,yH]
def je (b : BR) (z t : Rat) : Bool := (fN b.l).any fun d => gC b.l z t d.z.val d.t.val
theorem xj {l : List SR} (hck : br l = 0) {r : AR} (h : r ∈ fN l) : Va r r.z.val r.t.val 4 4 := by
 rw [fN,List.mem_append] at h
 rcases h with h | h
 ·exact rM hck h
 ·simp at h
  rcases h with rfl | rfl
  ·exact qW
  ·exact ⟨vI ⟨by decide,by decide⟩,vI ⟨by decide,by decide⟩⟩
theorem yg {r1 r2 : List PV} {n : Nat} (h1 : r1.length = n) (h2 : r2.length = n) : ∀ row ∈ [r1,r2],row.length = n := by
 intro row hr
 rcases List.mem_cons.1 hr with rfl | hr
 ·exact h1
 ·rcases List.mem_cons.1 hr with rfl | hr
  ·exact h2
  ·cases hr
set_option maxRecDepth 20000 in
theorem sP (b : BR) (hb : b.Ok) (a : AR) {z t : Rat} {n m : Nat} [ha : Va a z t n m] (hn : n + m ≤ 50000) : Ret Tryz.prog .shared 121 [.agg (eB b),.agg (eA a)] (.bool (je b z t)) := by
 have hl := hb.lim.l
 have hck := hb.chkL
 have h12 := hb.few.1
 have hlen : (fN b.l).length ≤ 1000 := by
  have := fj b.l
  rw [fN,cG];simp;omega
 have hc := lL (fN b.l) hlen 169 (eB b) (eA a) (fun d => gC b.l z t d.z.val d.t.val) fun d hd => pV b hb a (z := z) (t := t) hn d (xj hck hd) (by decide) (by decide)
 rw [show (fN b.l).any (fun d => gC b.l z t d.z.val d.t.val) = je b z t from rfl] at hc
 have w1 := aS 1 ⟨by decide,by decide⟩
 have w0 := aS 0 ⟨by decide,by decide⟩
 have w2 := aS (-1) ⟨by decide,by decide⟩
 generalize je b z t = F at *
 have hT : (cG b.l).length ≤ 1000 := by rw [fN] at hlen;simp at hlen;omega
 have hrow : (cG b.l).map eA ++ [eA cN,eA yH] = (fN b.l).map eA := by rw [fN,List.map_append];rfl
 refine Ret.of_pwp layOk mixed Go.Proofs.Tryz.func121 rfl (by decide) rfl rfl ?_
 (repeat ((fail_if_success (with_reducible refine aP 1 ?_));refine cF rfl ?_))
 refine aB (Ghost.move (k := 3) (k' := 1003) (t := 3) rfl rfl rfl rfl) ?_
 ((repeat ((fail_if_success (with_reducible refine aP 1 ?_));refine cF rfl ?_));refine aE 2 ?_)
 iterate 2 refine ac rfl ?_
 refine aR ?_
 refine aV rfl (qE (g2 := 1) (g3 := 1) b.l hl (by omega) hck rfl ⟨rfl,rfl,trivial⟩ fun s1 g => ?_)
 refine aJ ?_
 repeat refine ac rfl ?_
 refine aq rfl rfl rfl w1 rfl rfl ?_
 repeat refine ac rfl ?_
 refine aq rfl rfl rfl w0 rfl rfl ?_
 repeat refine ac rfl ?_
 refine aq rfl rfl rfl w2 rfl rfl ?_
 repeat refine ac rfl ?_
 refine aq rfl rfl rfl w0 rfl rfl ?_
 repeat refine ac rfl ?_
 refine ay (bb 1 rfl rfl rfl rfl rfl rfl rfl rfl rfl rfl rfl (by repeat' constructor) rfl ?_)
 repeat refine ac rfl ?_
 refine ay (bC 1 rfl rfl rfl rfl rfl rfl rfl rfl rfl rfl rfl (by repeat' constructor) (yg rfl rfl) rfl rfl (by simp;omega) (by simp;omega) ?_)
 (repeat ((fail_if_success (with_reducible refine aP 2 ?_));refine cF rfl ?_))
 refine aB (Ghost.data (k := 2) (t := 2) rfl rfl rfl rfl) ?_
 refine aB (Ghost.data (k := 1003) (t := 3) rfl rfl rfl rfl) ?_
 repeat refine ac rfl ?_
 rw [← hrow] at hc
 refine aT rfl rfl rfl hc rfl rfl rfl ?_
 repeat refine ac rfl ?_
 exact bj rfl rfl rfl
theorem Af (s : SR) (t : Rat) (k : Nat) : prB (bn s t k) = (s.k.s k - (s.c.val + t * (s.x : Rat)),s.k.m k - bg s.k.m k) := by
 rw [prB,bn,ofQ_val,ofQ_val];rfl
theorem y_ (b : BR) (t : Rat) : (kr b.l t).map prB = (bd b).bnds t := by
 rw [kr,Bd.bnds,List.map_flatMap]
 show _ = (List.range b.l.length).flatMap ((bd b).bnd1 t)
 have e : ∀ s : SR,(jV t s).map prB = (List.range s.k.S.length).map fun k => (s.k.s k - (s.c.val + t * (s.x : Rat)),s.k.m k - bg s.k.m k) := by
  intro s
  rw [jV,List.map_map]
  exact List.map_congr_left fun k _ => Af s t k
 have key : ∀ (l : List SR),(l.flatMap fun s => (jV t s).map prB) = (List.range l.length).flatMap fun i => (jV t (l.getD i dS)).map prB := by
  intro l
  induction l with
  |nil => rfl
  |cons x l ih =>
   rw [List.flatMap_cons,ih,List.length_cons,List.range_succ_eq_map,List.flatMap_cons,List.flatMap_map]
   rfl
 rw [key]
 refine congrArg (fun f => (List.range b.l.length).flatMap f) (funext fun i => ?_)
 rw [e]
 rfl
theorem mO {b : BR} (hb : b.Ok) {t : Rat} (hex : ∃ z,(bd b).w ≤ (bd b).F z t) : (bd b).Least (ec b t) t := by
 refine Bd.settled_least (lZ hb) hex ?_ ?_
 ·rw [← y_]
  exact (fw gA (kr b.l t)).map prB
 ·rw [t8,List.pairwise_map]
  exact nU gA (kr b.l t)
theorem io {b : BR} (hb : b.Ok) {t : Rat} (hex : ∃ z,(bd b).w ≤ (bd b).F z t) : ec b t = (bd b).sg t := (Bd.sg_eq (mO hb hex)).symm
theorem uM {b : BR} (z t : Rat) : (bd b).Inl ((bd b).pL z t) z t := fun i hi => vm
theorem wv {b : BR} (hb : b.Ok) {t : Rat} {m : Nat} (ht : HQ t m) (hex : ∃ z,(bd b).w ≤ (bd b).F z t) : HQ (ec b t) (m + 5000) := by
 have hl := mO hb hex
 have hK := hl.K (lZ hb) (uM _ _)
 have hz := Bd.ln_at (lZ hb) hl.1 (uM (b := b) (ec b t) t).c hK
 rw [hz,Bd.ln]
 have hw : Zb b.w := aN hb.lim.w.1 hb.lim.w.2
 have wq : HQ ((bd b).w) 4 := HQ.int
 have hpn : ∀ i,i < b.l.length → (bd b).pL (ec b t) t i ≤ (bd b).n i := fun i hi => (uM (b := b) (ec b t) t i hi).1
 have fo := yr hb hpn
 have kc := tP hb ((bd b).pL (ec b t) t)
 have kh := tQ hb ((bd b).pL (ec b t) t)
 exact (@HQ.div _ _ _ 300 (@HQ.sub _ _ _ _ (@HQ.sub _ _ 4 4100 wq fo) (@HQ.mul _ _ 300 m kc ht)) kh).mono (by omega)
theorem ww {b : BR} (hb : b.Ok) {t : Rat} {m : Nat} (ht : HQ t m) (hex : ∃ z,(bd b).w ≤ (bd b).F z t) : Va ⟨ofQ (ec b t),ofQ t⟩ (ec b t) t (m + 5000) m := ⟨Vq.ofQ (h := wv hb ht hex),Vq.ofQ (h := ht)⟩
theorem oz {b : BR} (hb : b.Ok) {t : Rat} {m : Nat} (ht : HQ t m) (hm : m ≤ 20000) (hex : ∃ z,(bd b).w ≤ (bd b).F z t) : Ret Tryz.prog .shared 164 [.agg (eB b),.agg (eA ⟨ofQ (ec b t),ofQ t⟩)] (.agg (eR (ofQ ((bd b).E t)))) := by
 have := kE b hb ⟨ofQ (ec b t),ofQ t⟩ (ha := ww hb ht hex) (by omega)
 rwa [show (bd b).e (ec b t) t = (bd b).E t by rw [Bd.E,io hb hex]] at this
theorem tm {b : BR} (hb : b.Ok) {t : Rat} {m : Nat} (ht : HQ t m) (hm : m ≤ 20000) (hex : ∃ z,(bd b).w ≤ (bd b).F z t) : Ret Tryz.prog .shared 98 [.agg (eR (ofQ ((bd b).E t)))] (I (sgn ((bd b).E t))) := by
 have h1 := zh hb (wv hb ht hex) ht
 rw [show (bd b).e (ec b t) t = (bd b).E t by rw [Bd.E,io hb hex]] at h1
 exact lr (ofQ ((bd b).E t)) (hx := Vq.ofQ (h := h1)) (by omega)
theorem kI {b : BR} (hb : b.Ok) {t : Rat} {m : Nat} (ht : HQ t m) (hm : m ≤ 20000) (hex : ∃ z,(bd b).w ≤ (bd b).F z t) : Ret Tryz.prog .shared 167 [.agg (eB b),.agg (eA ⟨ofQ (ec b t),ofQ t⟩)] (yE ((bd b).guess ((bd b).sg t) t)) := by
 have := sC b hb ⟨ofQ (ec b t),ofQ t⟩ (ha := ww hb ht hex) (by omega)
 rwa [← io hb hex]
def p2 (k : Nat) : Rat := ((2 ^ k : Nat) : Int)
theorem j4 (k : Nat) : p2 (k + 1) = p2 k + p2 k := by
 rw [p2,p2,Nat.pow_succ,show ((2 ^ k * 2 : Nat) : Int) = ((2 ^ k : Nat) : Int) + ((2 ^ k : Nat) : Int) by omega]
 push_cast
 rfl
theorem vf {k : Nat} : HQ (p2 k) (k / 16 + 1) := by
 refine ⟨gV ?_ (by omega)⟩
 rw [Int.natAbs_natCast,show (65536 : Nat) = 2 ^ 16 by decide,← Nat.pow_mul]
 exact Nat.pow_lt_pow_right (by decide) (by omega)
theorem xg {b : Bd} {n : Nat} {w : Rat} : b.dbl (-1) (n + 1) w = if 0 < b.E (-w) then b.dbl (-1) n (w + w) else some w := by
 rw [Bd.dbl]
 have e : (-1 : Rat) * w = -w := by grind
 rw [e]
 by_cases h : 0 < b.E (-w)
 ·rw [if_pos h,if_pos (by grind)]
 ·rw [if_neg h,if_neg (by grind)]
theorem xh {b : Bd} {n : Nat} {w : Rat} : b.dbl 1 (n + 1) w = if b.E w < 0 then b.dbl 1 n (w + w) else some w := by
 rw [Bd.dbl]
 have e : (1 : Rat) * w = w := by grind
 rw [e]
 by_cases h : b.E w < 0
 ·rw [if_pos h,if_pos (by grind)]
 ·rw [if_neg h,if_neg (by grind)]
def Dy (N j : Nat) (t : Rat) : Prop := ∃ a : Int,t = (a : Rat) / ((2 ^ j : Nat) : Int) ∧ a.natAbs ≤ 2 ^ (j + N)
theorem wG (j : Nat) : (((2 ^ j : Nat) : Int)) ≠ 0 := by have := Nat.two_pow_pos j;omega
theorem Dy.hq {N j : Nat} {t : Rat} (h : Dy N j t) : HQ t ((j + N) / 16 + 1) := by
 obtain ⟨a,rfl,ha⟩ := h
 have key : 2 ^ (j + N) < 65536 ^ ((j + N) / 16 + 1) := by
  rw [show (65536 : Nat) = 2 ^ 16 by decide,← Nat.pow_mul]
  exact Nat.pow_lt_pow_right (by decide) (by omega)
 have h2 : 2 ^ j ≤ 2 ^ (j + N) := Nat.pow_le_pow_right (by decide) (by omega)
 exact ⟨jd (wG j) (by omega) (by rw [Int.natAbs_natCast];omega)⟩
theorem Dy.mid {N j : Nat} {lo hi : Rat} (h1 : Dy N j lo) (h2 : Dy N j hi) : Dy N (j + 1) ((lo + hi) / 2) := by
 obtain ⟨a,rfl,ha⟩ := h1
 obtain ⟨c,rfl,hc⟩ := h2
 refine ⟨a + c,?_,?_⟩
 ·have e : (((2 ^ (j + 1) : Nat) : Int) : Rat) = 2 * (((2 ^ j : Nat) : Int) : Rat) := by
   rw [Nat.pow_succ,show ((2 ^ j * 2 : Nat) : Int) = 2 * ((2 ^ j : Nat) : Int) by omega];push_cast;rfl
  have hn : (((2 ^ j : Nat) : Int) : Rat) ≠ 0 := by have := wG j;exact_mod_cast this
  rw [e]
  push_cast
  generalize (((2 ^ j : Nat) : Int) : Rat) = D at *
  grind
 ·rw [show j + 1 + N = (j + N) + 1 by omega,Nat.pow_succ]
  omega
theorem Dy.up {N j : Nat} {t : Rat} (h : Dy N j t) : Dy N (j + 1) t := by
 have := Dy.mid h h
 rwa [show (t + t) / 2 = t by grind] at this
noncomputable def f3 (b : Bd) : List Rat → Option (Rat × Rat)
 |[] => none
 |t :: r => match b.at1 t with
  |some x => some x
  |none => f3 b r
theorem xr (b : Bd) (lo hi : Rat) : b.fst3 lo hi = f3 b [0,lo,hi] := by
 rw [Bd.fst3,f3,f3,f3,f3]
 cases b.at1 0 <;> cases b.at1 lo <;> cases b.at1 hi <;> rfl
set_option maxRecDepth 20000 in
theorem sv (b : BR) (hb : b.Ok) (h40 : ∀ t,(kr b.l t).length ≤ 40) (hS : ∀ t,SortC (kr b.l t)) (hex : ∀ t,∃ z,(bd b).w ≤ (bd b).F z t) {N : Nat} (hN : N ≤ 150000) {x : Rat × Rat} (hx : (bd b).eqQ N = some x) : Ret Tryz.prog .shared 120 [.agg (eB b)] (.agg (eA ⟨ofQ x.1,ofQ x.2⟩)) := by
 have w1 := aS 1 ⟨by decide,by decide⟩
 have wm := aS (-1) ⟨by decide,by decide⟩
 rw [show (((1 : Int) : Int) : Rat) = p2 0 from rfl] at w1
 rw [show (((-1 : Int) : Int) : Rat) = -p2 0 by rw [show p2 0 = 1 from rfl];rfl] at wm
 rw [Bd.eqQ] at hx
 obtain ⟨Wl,hWl⟩ : ∃ W,(bd b).dbl (-1) N 1 = some W := by
  cases h : (bd b).dbl (-1) N 1 with
  |none => rw [h] at hx;cases hx
  |some W => exact ⟨W,rfl⟩
 obtain ⟨Wh,hWh⟩ : ∃ W,(bd b).dbl 1 N 1 = some W := by
  cases h : (bd b).dbl 1 N 1 with
  |none => rw [hWl,h] at hx;cases hx
  |some W => exact ⟨W,rfl⟩
 rw [hWl,hWh] at hx
 simp only at hx
 have row : ∀ (t : Rat) (m : Nat),HQ t m → m ≤ 20000 → Ret Tryz.prog .shared 165 [.agg (eB b),.agg (eR (ofQ t))] (.agg (eA ⟨ofQ (ec b t),ofQ t⟩)) ∧ Ret Tryz.prog .shared 164 [.agg (eB b),.agg (eA ⟨ofQ (ec b t),ofQ t⟩)] (.agg (eR (ofQ ((bd b).E t)))) ∧ Ret Tryz.prog .shared 98 [.agg (eR (ofQ ((bd b).E t)))] (I (sgn ((bd b).E t))) := fun t m ht hm =>
  ⟨pf b hb (h40 t) (hS t) (ofQ t) (ht := Vq.ofQ (h := ht)) (by omega),oz hb ht hm (hex t),tm hb ht hm (hex t)⟩
 refine Ret.of_pwp layOk mixed Go.Proofs.Tryz.func120 rfl (by decide) rfl rfl ?_
 repeat refine ac rfl ?_
 refine aq rfl rfl rfl w1 rfl rfl ?_
 repeat refine ac rfl ?_
 refine aq rfl rfl rfl wm rfl rfl ?_
 repeat refine ac rfl ?_
 refine aq rfl rfl rfl w1 rfl rfl ?_
 repeat refine ac rfl ?_
 refine ax (fun k : Nat => k < N ∧ (bd b).dbl (-1) (N - k) (p2 k) = some Wl) (fun k => [(1,.ptr 1 1 0 0),(2,.ptr 2 1 0 0),(3,.ptr 3 1 0 0),(4,.ptr 4 1 0 0),(5,.ptr 5 1 0 0)])
  (fun k => [(1,1,⟨29,6,[eB b],2⟩),(2,1,⟨40,8,[zN ++ zN],2⟩),(3,1,⟨26,4,[eR (ofQ (p2 k))],2⟩),(4,1,⟨26,4,[eR (ofQ (-p2 k))],2⟩),(5,1,⟨26,4,[eR (ofQ (p2 0))],2⟩)]) (fun k => N - k) 0
  ⟨by rcases Nat.eq_zero_or_pos N with h | h;· subst h;cases hWl
      exact h,hWl⟩ ⟨rfl,rfl,rfl,rfl,rfl,rfl,rfl,rfl,rfl,rfl,trivial⟩ ?_
 intro k s ⟨hk,hd⟩
 obtain ⟨j,hj⟩ : ∃ j,N - k = j + 1 := ⟨N - k - 1,by omega⟩
 rw [hj,xg] at hd
 have hq : HQ (p2 k) 10000 := vf.mono (by omega)
 have hqn : HQ (-p2 k) 10000 := @HQ.neg _ _ hq
 obtain ⟨r1,r2,r3⟩ := row (-p2 k) 10000 hqn (by decide)
 have hsg := fW ((bd b).E (-p2 k))
 have n1 := dj (ofQ (p2 k)) (ofQ (p2 k)) (hx := Vq.ofQ (h := hq)) (hy := Vq.ofQ (h := hq)) (by decide) (by decide)
 rw [← j4] at n1
 have hq1 : HQ (p2 (k + 1)) 10000 := vf.mono (by omega)
 have n2 := As (ofQ (p2 (k + 1))) (hx := Vq.ofQ (h := hq1)) (by decide)
 rw [← j4] at hd
 repeat refine ac rfl ?_
 refine am 7 [19,20,21,22,23,24,25] (by decide +kernel) ?_
 repeat refine ac rfl ?_
 refine aq rfl rfl rfl r1 rfl rfl ?_
 repeat refine ac rfl ?_
 refine aq rfl rfl rfl r2 rfl rfl ?_
 repeat refine ac rfl ?_
 refine aT rfl rfl rfl r3 rfl rfl rfl ?_
 repeat refine ac rfl ?_
 refine ae rfl ?_ ?_<;>intro h
 ·have h1 := hsg.1 (of_decide_eq_true h)
  clear h
  rw [if_pos h1] at hd
  repeat refine ac rfl ?_
  refine aq rfl rfl rfl n1 rfl rfl ?_
  repeat refine ac rfl ?_
  refine aq rfl rfl rfl n2 rfl rfl ?_
  repeat refine ac rfl ?_
  have hk1 : k + 1 < N := by
   rcases Nat.lt_or_ge (k + 1) N with h | h
   ·exact h
   ·rw [show j = 0 by omega] at hd;cases hd
  have hd1 : (bd b).dbl (-1) (N - (k + 1)) (p2 (k + 1)) = some Wl := by rw [show N - (k + 1) = j by omega];exact hd
  exact ⟨k + 1,⟨hk1,hd1⟩,by omega,rfl,rfl,rfl,rfl,rfl,rfl,rfl,rfl,rfl,rfl,trivial⟩
 ·have h1 : ¬ 0 < (bd b).E (-p2 k) := fun h2 => (of_decide_eq_false h) (hsg.2 h2)
  clear h
  rw [if_neg h1] at hd
  cases hd
  clear hWl hj r1 r2 r3 hsg n1 n2 hq1
  repeat refine ac rfl ?_
  refine aq rfl rfl rfl w1 rfl rfl ?_
  repeat refine ac rfl ?_
  refine ax (fun k' : Nat => k' < N ∧ (bd b).dbl 1 (N - k') (p2 k') = some Wh) (fun k' => [(1,.ptr 1 1 0 0),(2,.ptr 2 1 0 0),(3,.ptr 3 1 0 0),(4,.ptr 4 1 0 0),(5,.ptr 5 1 0 0)])
   (fun k' => [(1,1,⟨29,6,[eB b],2⟩),(2,1,⟨40,8,[zN ++ zN],2⟩),(3,1,⟨26,4,[eR (ofQ (p2 k'))],2⟩),(4,1,⟨26,4,[eR (ofQ (-p2 k))],2⟩),(5,1,⟨26,4,[eR (ofQ (p2 k'))],2⟩)]) (fun k' => N - k') 0
   ⟨by omega,hWh⟩ ⟨rfl,rfl,rfl,rfl,rfl,rfl,rfl,rfl,rfl,rfl,trivial⟩ ?_
  intro q s2 ⟨hk',hd⟩
  obtain ⟨j,hj⟩ : ∃ j,N - q = j + 1 := ⟨N - q - 1,by omega⟩
  rw [hj,xh] at hd
  have hqq : HQ (p2 q) 10000 := vf.mono (by omega)
  obtain ⟨r1,r2,r3⟩ := row (p2 q) 10000 hqq (by decide)
  have hsg := d9 ((bd b).E (p2 q))
  have n1 := dj (ofQ (p2 q)) (ofQ (p2 q)) (hx := Vq.ofQ (h := hqq)) (hy := Vq.ofQ (h := hqq)) (by decide) (by decide)
  rw [← j4] at n1
  rw [← j4] at hd
  repeat refine ac rfl ?_
  refine am 7 [32,33,34,35,36,37,38] (by decide +kernel) ?_
  repeat refine ac rfl ?_
  refine aq rfl rfl rfl r1 rfl rfl ?_
  repeat refine ac rfl ?_
  refine aq rfl rfl rfl r2 rfl rfl ?_
  repeat refine ac rfl ?_
  refine aT rfl rfl rfl r3 rfl rfl rfl ?_
  repeat refine ac rfl ?_
  refine ae rfl ?_ ?_<;>intro h
  ·have h1 := hsg.1 (of_decide_eq_true h)
   clear h
   rw [if_pos h1] at hd
   repeat refine ac rfl ?_
   refine aq rfl rfl rfl n1 rfl rfl ?_
   repeat refine ac rfl ?_
   have hk1 : q + 1 < N := by
    rcases Nat.lt_or_ge (q + 1) N with h | h
    ·exact h
    ·rw [show j = 0 by omega] at hd;cases hd
   have hd1 : (bd b).dbl 1 (N - (q + 1)) (p2 (q + 1)) = some Wh := by rw [show N - (q + 1) = j by omega];exact hd
   exact ⟨q + 1,⟨hk1,hd1⟩,by omega,rfl,rfl,rfl,rfl,rfl,rfl,rfl,rfl,rfl,rfl,trivial⟩
  ·have h1 : ¬ (bd b).E (p2 q) < 0 := fun h2 => (of_decide_eq_false h) (hsg.2 h2)
   clear h
   rw [if_neg h1] at hd
   cases hd
   clear hWh hj r1 r2 r3 hsg n1
   have w0 := aS 0 ⟨by decide,by decide⟩
   rw [show (((0 : Int)) : Rat) = 0 from rfl] at w0
   rw [xr] at hx
   have hL : ∀ t ∈ [0,-p2 k,p2 q],HQ t 10000 := by
    intro t ht
    simp at ht
    rcases ht with rfl | rfl | rfl
    ·exact HQ.zero.mono (by decide)
    ·exact hqn
    ·exact hqq
   repeat refine ac rfl ?_
   refine bM [46] [3,4] (by decide +kernel) ?_
   repeat refine ac rfl ?_
   refine aq rfl rfl rfl w0 rfl rfl ?_
   repeat refine ac rfl ?_
   refine qH rfl rfl rfl (bb 1 rfl rfl rfl rfl rfl rfl rfl rfl rfl rfl rfl (by repeat' constructor) rfl ⟨iL rfl,?_⟩)
   repeat refine ac rfl ?_
   have hrows : ([0,-p2 k,p2 q] : List Rat).map (fun t => eR (ofQ t)) = [eR (ofQ 0),eR (ofQ (-p2 k)),eR (ofQ (p2 q))] := rfl
   refine dJ [(1,.ptr 1 1 0 0),(2,.ptr 2 1 0 0),(4,.ptr 4 1 0 0),(5,.ptr 5 1 0 0),(46,.als 46 ((s2.own 46).1 + 1) 0 3),(47,I 3),(48,I ((0 : Nat) : Int))]
    [(1,1,⟨29,6,[eB b],2⟩),(2,1,⟨40,8,[zN ++ zN],2⟩),(4,1,⟨26,4,[eR (ofQ (-p2 k))],2⟩),(5,1,⟨26,4,[eR (ofQ (p2 q))],2⟩),(46,(s2.own 46).1 + 1,⟨26,4,[eR (ofQ 0),eR (ofQ (-p2 k)),eR (ofQ (p2 q))],1⟩)]
    ⟨rfl,rfl,rfl,rfl,rfl,rfl,rfl,rfl,rfl,rfl,rfl,rfl,trivial⟩ ?_
   generalize (s2.own 46).1 + 1 = g
   rw [← hrows]
   intro s3
   generalize hLL : ([0,-p2 k,p2 q] : List Rat) = T3 at *
   have hT3 : T3.length = 3 := by rw [← hLL];rfl
   refine ax (fun i : Nat => i ≤ 3 ∧ (match f3 (bd b) (T3.drop i) with | some x => some x | none => (bd b).bis N (-p2 k) (p2 q)) = some x) (fun i => [(1,.ptr 1 1 0 0),(2,.ptr 2 1 0 0),(4,.ptr 4 1 0 0),(5,.ptr 5 1 0 0),(46,.als 46 g 0 3),(47,I 3),(48,I (i : Nat))])
    (fun i => [(1,1,⟨29,6,[eB b],2⟩),(2,1,⟨40,8,[zN ++ zN],2⟩),(4,1,⟨26,4,[eR (ofQ (-p2 k))],2⟩),(5,1,⟨26,4,[eR (ofQ (p2 q))],2⟩),(46,g,⟨26,4,T3.map (fun t => eR (ofQ t)),1⟩)]) (fun i => 3 - i) 0
    ⟨Nat.zero_le _,hx⟩ ⟨rfl,rfl,rfl,rfl,rfl,rfl,rfl,rfl,rfl,rfl,rfl,rfl,trivial⟩ ?_
   intro i s4 ⟨hi,hF⟩
   repeat refine ac rfl ?_
   refine ae rfl ?_ ?_<;>intro h
   ·have hlt : i < 3 := by have := of_decide_eq_true h;omega
    clear h
    obtain ⟨t,ht⟩ := aM (show i < T3.length by omega)
    have hrow : (T3.map (fun t => eR (ofQ t)))[i]? = some (eR (ofQ t)) := by rw [List.getElem?_map,ht];rfl
    have htq := hL t (List.mem_of_getElem? ht)
    have hw := f7 i
    obtain ⟨r1,r2,r3⟩ := row t 10000 htq (by decide)
    have hgs := kI hb htq (by decide) (hex t)
    have hdr : f3 (bd b) (T3.drop i) = match (bd b).at1 t with | some x => some x | none => f3 (bd b) (T3.drop (i + 1)) := by
     obtain ⟨hl1,h2⟩ := List.getElem?_eq_some_iff.1 ht
     rw [List.drop_eq_getElem_cons hl1,h2,f3]
    rw [hdr,Bd.at1,← io hb (hex t)] at hF
    rw [← io hb (hex t)] at hgs
    repeat refine ac rfl ?_
    refine wR rfl rfl rfl rfl rfl rfl rfl rfl rfl ?_
    rw [Int.toNat_natCast,Nat.zero_add i]
    refine bx rfl rfl (di rfl rfl rfl hrow rfl) ?_
    repeat refine ac rfl ?_
    refine aq rfl rfl rfl r1 rfl rfl ?_
    repeat refine ac rfl ?_
    refine aq rfl rfl rfl r2 rfl rfl ?_
    repeat refine ac rfl ?_
    refine aT rfl rfl rfl r3 rfl rfl rfl ?_
    repeat refine ac rfl ?_
    have hs0 := jp ((bd b).E t)
    refine ae rfl ?_ ?_<;>intro h
    ·have h1 := hs0.1 (of_decide_eq_true h)
     clear h
     rw [if_pos h1] at hF
     simp only [Option.some.injEq] at hF
     subst hF
     repeat refine ac rfl ?_
     exact aF rfl rfl rfl
    ·have h1 : ¬ (bd b).E t = 0 := fun h2 => (of_decide_eq_false h) (hs0.2 h2)
     clear h
     rw [if_neg h1] at hF
     cases hgg : (bd b).guess (ec b t) t with
     |none =>
      rw [hgg] at hgs hF
      simp only at hF
      rw [yE] at hgs
      repeat refine ac rfl ?_
      refine aq rfl rfl rfl hgs rfl rfl ?_
      repeat refine ac rfl ?_
      exact ⟨i + 1,⟨by omega,hF⟩,by omega,rfl,rfl,rfl,rfl,rfl,rfl,congrArg I hw,rfl,rfl,rfl,rfl,rfl,trivial⟩
     |some y =>
      rw [hgg] at hgs hF
      simp only [Option.some.injEq] at hF
      subst hF
      rw [yE] at hgs
      repeat refine ac rfl ?_
      refine aq rfl rfl rfl hgs rfl rfl ?_
      repeat refine ac rfl ?_
      exact aF rfl rfl rfl
   ·have hie : i = 3 := by have := of_decide_eq_false h;omega
    clear h
    rw [hie,List.drop_eq_nil_of_le (by omega),f3] at hF
    simp only at hF
    have hd0 : Dy N 0 (-p2 k) := ⟨-((2 ^ k : Nat) : Int),by rw [p2];push_cast;grind,by rw [Int.natAbs_neg,Int.natAbs_natCast];exact Nat.pow_le_pow_right (by decide) (by omega)⟩
    have hd1 : Dy N 0 (p2 q) := ⟨((2 ^ q : Nat) : Int),by rw [p2];push_cast;grind,by rw [Int.natAbs_natCast];exact Nat.pow_le_pow_right (by decide) (by omega)⟩
    have w2 := aS 2 ⟨by decide,by decide⟩
    rw [show (((2 : Int)) : Rat) = 2 from rfl] at w2
    have v2 : Vq (ofQ 2) 2 4 := Vq.ofQ (h := HQ.two)
    repeat refine ac rfl ?_
    refine ax (fun u : Nat × Rat × Rat => u.1 ≤ N ∧ (bd b).bis (N - u.1) u.2.1 u.2.2 = some x ∧ Dy N u.1 u.2.1 ∧ Dy N u.1 u.2.2) (fun u => [(1,.ptr 1 1 0 0),(2,.ptr 2 1 0 0),(4,.ptr 4 1 0 0),(5,.ptr 5 1 0 0)])
     (fun u => [(1,1,⟨29,6,[eB b],2⟩),(2,1,⟨40,8,[zN ++ zN],2⟩),(4,1,⟨26,4,[eR (ofQ u.2.1)],2⟩),(5,1,⟨26,4,[eR (ofQ u.2.2)],2⟩)]) (fun u => N - u.1) (0,-p2 k,p2 q)
     ⟨Nat.zero_le _,hF,hd0,hd1⟩ ⟨rfl,rfl,rfl,rfl,rfl,rfl,rfl,rfl,trivial⟩ ?_
    rintro ⟨j,lo,hi⟩ s5 ⟨hj,hB,hlo,hhi⟩
    simp only at hj hB hlo hhi
    dsimp only
    obtain ⟨n,hn⟩ : ∃ n,N - j = n + 1 := by
     rcases Nat.eq_zero_or_pos (N - j) with h | h
     ·rw [h] at hB;cases hB
     ·exact ⟨N - j - 1,by omega⟩
    rw [hn,Bd.bis] at hB
    have hm := hlo.mid hhi
    have hl2 := hlo.up
    have hh2 := hhi.up
    have ql := hlo.hq
    have qh := hhi.hq
    have qm := hm.hq
    have a1 := dj (ofQ lo) (ofQ hi) (hx := Vq.ofQ (h := ql)) (hy := Vq.ofQ (h := qh)) (by omega) (by omega)
    have vs : Vq (ofQ (lo + hi)) (lo + hi) ((j + N) / 16 + 1 + ((j + N) / 16 + 1) + 1) := Vq.ofQ (h := @HQ.add _ _ _ _ ql qh)
    have a2 := mt (ofQ (lo + hi)) (ofQ 2) (hx := vs) (hy := v2) (by omega) (by decide) (by decide)
    obtain ⟨r1,r2,r3⟩ := row ((lo + hi) / 2) _ qm (by omega)
    have hgs := kI hb qm (by omega) (hex ((lo + hi) / 2))
    rw [Bd.at1,← io hb (hex ((lo + hi) / 2))] at hB
    rw [← io hb (hex ((lo + hi) / 2))] at hgs
    generalize (lo + hi) / 2 = t at *
    have hs0 := jp ((bd b).E t)
    have hs1 := d9 ((bd b).E t)
    repeat refine ac rfl ?_
    refine aq rfl rfl rfl a1 rfl rfl ?_
    repeat refine ac rfl ?_
    refine aq rfl rfl rfl w2 rfl rfl ?_
    repeat refine ac rfl ?_
    refine aq rfl rfl rfl a2 rfl rfl ?_
    repeat refine ac rfl ?_
    refine aq rfl rfl rfl r1 rfl rfl ?_
    repeat refine ac rfl ?_
    refine aq rfl rfl rfl r2 rfl rfl ?_
    repeat refine ac rfl ?_
    refine aT rfl rfl rfl r3 rfl rfl rfl ?_
    repeat refine ac rfl ?_
    refine ae rfl ?_ ?_<;>intro h
    ·have h1 := hs0.1 (of_decide_eq_true h)
     clear h
     rw [if_pos h1] at hB
     simp only [Option.some.injEq] at hB
     subst hB
     repeat refine ac rfl ?_
     exact aF rfl rfl rfl
    ·have h1 : ¬ (bd b).E t = 0 := fun h2 => (of_decide_eq_false h) (hs0.2 h2)
     clear h
     rw [if_neg h1] at hB
     cases hgg : (bd b).guess (ec b t) t with
     |none =>
      rw [hgg] at hgs hB
      simp only at hB
      rw [yE] at hgs
      repeat refine ac rfl ?_
      refine aq rfl rfl rfl hgs rfl rfl ?_
      repeat refine ac rfl ?_
      refine ae rfl ?_ ?_<;>intro h
      ·have h2 := hs1.1 (of_decide_eq_true h)
       clear h
       rw [if_pos h2] at hB
       repeat refine ac rfl ?_
       exact ⟨(j + 1,t,hi),⟨by simp only;omega,by simp only;rw [show N - (j + 1) = n by omega];exact hB,hm,hh2⟩,by simp only;omega,rfl,rfl,rfl,rfl,rfl,rfl,rfl,rfl,trivial⟩
      ·have h2 : ¬ (bd b).E t < 0 := fun h3 => (of_decide_eq_false h) (hs1.2 h3)
       clear h
       rw [if_neg h2] at hB
       repeat refine ac rfl ?_
       exact ⟨(j + 1,lo,t),⟨by simp only;omega,by simp only;rw [show N - (j + 1) = n by omega];exact hB,hl2,hm⟩,by simp only;omega,rfl,rfl,rfl,rfl,rfl,rfl,rfl,rfl,trivial⟩
     |some y =>
      rw [hgg] at hgs hB
      simp only [Option.some.injEq] at hB
      subst hB
      rw [yE] at hgs
      repeat refine ac rfl ?_
      refine aq rfl rfl rfl hgs rfl rfl ?_
      repeat refine ac rfl ?_
      exact aF rfl rfl rfl
def tR (b : BR) : Prop := gz b cN = false ∧ ∀ r ∈ cG b.l,gz b r = false
theorem lg {b : BR} {A B : Rat} : ld b A B = true ↔ fH b.l A B b.l.length ∧ ak (yT b.l A B) b.l.length < (b.w : Rat) * (A + B * b.a.val) := by
 rw [ld,@decide_eq_true_iff _ (Classical.propDecidable _)]
theorem xH : (ofQ ((1 : Int) : Rat)).val = 1 := by rw [ofQ_val];rfl
theorem zero_val : (ofQ ((0 : Int) : Rat)).val = 0 := by rw [ofQ_val];rfl
theorem qL {b : BR} (hb : b.Ok) {z t : Rat} (h : (bd b).Bal z t) (A B : Rat) : ld b A B = false := by
 cases hr : ld b A B with
 |false => rfl
 |true =>
  obtain ⟨h1,h2⟩ := lg.1 hr
  have h3 := Bd.exclude (lZ hb) h (A := A) (B := B) h1
  have e : ak (yT b.l A B) b.l.length = ak (fun i => if 0 < A + B * (bd b).X i then (bd b).cap i * (A + B * (bd b).X i) else 0) (bd b).N := rfl
  rw [← e] at h3
  have h4 : (b.w : Rat) * (A + B * b.a.val) ≤ ak (yT b.l A B) b.l.length := h3
  grind
theorem sb {b : BR} (hb : b.Ok) {z t : Rat} (h : (bd b).Bal z t) : tR b := ⟨qL hb h _ _,fun _ _ => qL hb h _ _⟩
def db (x : Int) : SR := ⟨x,RR.zero,⟨[0],[ofQ ((2 : Int) : Rat)]⟩⟩
def iq (x : Int) : SR := ⟨x,RR.zero,⟨[0,10],[ofQ ((5 : Int) : Rat),ofQ ((0 : Int) : Rat)]⟩⟩
def b1 : BR := ⟨40,ofQ ((25 : Int) : Rat),[db 0,db 100]⟩
def b2 : BR := ⟨80,ofQ ((75 : Int) : Rat),[iq 0,iq 100]⟩
theorem ns {z : Int} (h : i64 z) : (ofQ (z : Rat)).sz 12 := ⟨Nat.le_trans (vI h).sz.1 (by decide),Nat.le_trans (vI h).sz.2 (by decide)⟩
theorem rU : RR.zero.sz 12 := ⟨Nat.zero_le _,Nat.zero_le _⟩
theorem yd {x : Int} (hx : i64 x) : (db x).Lim := by
 refine ⟨hx,rU,⟨fun z hz => ?_,fun m hm => ?_,show 1 ≤ 1000000000 by decide,show 1 ≤ 1000000000 by decide⟩⟩
 ·simp [db] at hz;subst hz;exact ⟨by decide,by decide⟩
 ·simp only [db,List.mem_singleton] at hm;subst hm;exact ns ⟨by decide,by decide⟩
theorem xK {x : Int} (hx : i64 x) : (iq x).Lim := by
 refine ⟨hx,rU,⟨fun z hz => ?_,fun m hm => ?_,show 2 ≤ 1000000000 by decide,show 2 ≤ 1000000000 by decide⟩⟩
 ·simp [iq] at hz;rcases hz with rfl | rfl <;> exact ⟨by decide,by decide⟩
 ·simp only [iq,List.mem_cons,List.not_mem_nil,or_false] at hm
  rcases hm with rfl | rfl <;> exact ns ⟨by decide,by decide⟩
theorem mM (x : Int) : bp (db x).k = 0 := by
 have h : cd (db x).k 0 = 0 := by
  rw [cd,if_neg,if_neg (by omega)]
  simp only [db,List.getD_cons_zero,ofQ_val]
  decide
 rw [bp,if_neg (show ¬ 40 < (db x).k.S.length by simp [db]),if_neg (show ¬ (db x).k.M.length ≠ (db x).k.S.length by simp [db])]
 show bP (db x).k 0 1 = 0
 rw [bP,if_pos h,bP]
theorem mw (x : Int) : bp (iq x).k = 0 := by
 have h : cd (iq x).k 0 = 0 := by
  rw [cd,if_neg,if_neg (by omega)]
  simp only [iq,List.getD_cons_zero,ofQ_val]
  decide
 have h1 : cd (iq x).k 1 = 0 := by
  rw [cd,if_neg,if_neg]
  ·simp [iq]
  ·simp only [iq,List.getD_cons_zero,List.getD_cons_succ,ofQ_val]
   decide
 rw [bp,if_neg (show ¬ 40 < (iq x).k.S.length by simp [iq]),if_neg (show ¬ (iq x).k.M.length ≠ (iq x).k.S.length by simp [iq])]
 show bP (iq x).k 0 2 = 0
 rw [bP,if_pos h,bP,if_pos h1,bP]
theorem gj {s : SR} (hx : -1000000 ≤ s.x ∧ s.x ≤ 1000000) (hc : s.c = RR.zero) (hk : bp s.k = 0) : dL s = 0 := by
 rw [dL,if_neg,hk]
 rw [hc,RR.zero_val]
 rintro (h | h)
 ·omega
 ·revert h;decide
theorem tV : aH b1 = 0 := by
 rw [aH,if_neg]
 ·rw [br,if_neg (by decide)]
  show bK dL [db 0,db 100] = 0
  rw [bK,if_pos (gj ⟨by decide,by decide⟩ rfl (mM _)),bK,if_pos (gj ⟨by decide,by decide⟩ rfl (mM _)),bK]
 ·simp only [b1,ofQ_val]
  decide
theorem tZ : aH b2 = 0 := by
 rw [aH,if_neg]
 ·rw [br,if_neg (by decide)]
  show bK dL [iq 0,iq 100] = 0
  rw [bK,if_pos (gj ⟨by decide,by decide⟩ rfl (mw _)),bK,if_pos (gj ⟨by decide,by decide⟩ rfl (mw _)),bK]
 ·simp only [b2,ofQ_val]
  decide
theorem kn : b1.Ok := by
 refine ⟨⟨⟨by decide,by decide⟩,ns ⟨by decide,by decide⟩,fun s hs => ?_,by decide⟩,tV,by decide,fun s hs => ?_⟩
 ·simp only [b1,List.mem_cons,List.not_mem_nil,or_false] at hs
  rcases hs with rfl | rfl <;> exact yd ⟨by decide,by decide⟩
 ·simp only [b1,List.mem_cons,List.not_mem_nil,or_false] at hs
  rcases hs with rfl | rfl <;> decide
theorem yz : b2.Ok := by
 refine ⟨⟨⟨by decide,by decide⟩,ns ⟨by decide,by decide⟩,fun s hs => ?_,by decide⟩,tZ,by decide,fun s hs => ?_⟩
 ·simp only [b2,List.mem_cons,List.not_mem_nil,or_false] at hs
  rcases hs with rfl | rfl <;> exact xK ⟨by decide,by decide⟩
 ·simp only [b2,List.mem_cons,List.not_mem_nil,or_false] at hs
  rcases hs with rfl | rfl <;> decide
theorem uJ (z : Int) (h : i64 z) : hq (z : Rat) 4 := (@HQ.int z (aN h.1 h.2)).ok
theorem po (x : Int) (z t : Rat) : fQ (db x) z t = if z + t * (x : Rat) < 0 then 0 else 2 * (z + t * (x : Rat)) := by
 rw [fQ,fG]
 show ak (cw (db x).k.s (db x).k.m (yQ (db x) z t)) 1 = _
 rw [ak,ak,cw,yQ,bg]
 show 0 + (if RR.zero.val + (z + t * (x : Rat)) - ((0 : Int) : Rat) < 0 then 0 else ((ofQ ((2 : Int) : Rat)).val - 0) * (RR.zero.val + (z + t * (x : Rat)) - ((0 : Int) : Rat))) = _
 rw [RR.zero_val,ofQ_val,show ((0 : Int) : Rat) = 0 from rfl,show ((2 : Int) : Rat) = 2 from rfl]
 grind
theorem y4 {z t : Rat} : (bd b1).Bal z t ↔ z = 15 ∧ t = -1 / 10 := by
 have e : (bd b1).Bal z t ↔ ((0 + fQ (db 0) z t) + fQ (db 100) z t = ((40 : Int) : Rat) ∧ (0 + fQ (db 0) z t * ((0 : Int) : Rat)) + fQ (db 100) z t * ((100 : Int) : Rat) = ((40 : Int) : Rat) * (ofQ ((25 : Int) : Rat)).val) := Iff.rfl
 rw [e,po,po,ofQ_val,show ((0 : Int) : Rat) = 0 from rfl,show ((100 : Int) : Rat) = 100 from rfl,show ((40 : Int) : Rat) = 40 from rfl,show ((25 : Int) : Rat) = 25 from rfl]
 constructor
 ·rintro ⟨h1,h2⟩
  grind
 ·rintro ⟨rfl,rfl⟩
  constructor <;> grind
theorem r6 : FL b1.l 15 (-1 / 10) = [ofQ 30,ofQ 10] := by
 show [ofQ (fQ (db 0) 15 (-1 / 10)),ofQ (fQ (db 100) 15 (-1 / 10))] = _
 rw [po,po,show ((0 : Int) : Rat) = 0 from rfl,show ((100 : Int) : Rat) = 100 from rfl]
 congr 2
 ·grind
 ·congr 2
  grind
theorem sa : bw b2.l = [0,100] := by
 rw [bw]
 have : b9 (b2.l.map (·.x)) = [0,100] := List.mergeSort_of_pairwise (by decide)
 rw [this]
 decide
theorem vi (x : Int) : kw (iq x).k.S.length (iq x).k.s (iq x).k.m = 50 := by
 show gx (iq x).k.s (iq x).k.m 2 * (-1) = 50
 rw [gx,ak,ak,ak,bg,bg]
 show (0 + ((ofQ ((5 : Int) : Rat)).val - 0) * ((0 : Int) : Rat) + ((ofQ ((0 : Int) : Rat)).val - (ofQ ((5 : Int) : Rat)).val) * ((10 : Int) : Rat)) * (-1) = 50
 rw [ofQ_val,ofQ_val]
 decide +kernel
theorem vj (x : Int) : bg (iq x).k.m (iq x).k.S.length = 0 := by
 show (ofQ ((0 : Int) : Rat)).val = 0
 rw [ofQ_val];rfl
theorem y6 {A B : Rat} : fH b2.l A B b2.l.length := by
 intro i hi _
 rcases i with _ | _ | i
 ·exact vj 0
 ·exact vj 100
 ·have : i + 1 + 1 < 2 := hi
  omega
theorem t7 (A B : Rat) : ak (yT b2.l A B) b2.l.length = 0 + (if 0 < A + B * 0 then 50 * (A + B * 0) else 0) + (if 0 < A + B * 100 then 50 * (A + B * 100) else 0) := by
 show ak (yT b2.l A B) 2 = _
 rw [ak,ak,ak,yT,yT]
 have e0 : xI b2.l 0 = 0 := rfl
 have e1 : xI b2.l 1 = 100 := rfl
 have c0 : cI b2.l 0 = 50 := vi 0
 have c1 : cI b2.l 1 = 50 := vi 100
 rw [e0,e1,c0,c1]
theorem Ae : gz b2 (jS 0) = true := by
 refine lg.2 ⟨y6,?_⟩
 rw [t7]
 simp only [jS,ofQ_val]
 show (0 : Rat) + (if 0 < (((-0 : Int)) : Rat) + ((1 : Int) : Rat) * 0 then 50 * ((((-0 : Int)) : Rat) + ((1 : Int) : Rat) * 0) else 0) + (if 0 < (((-0 : Int)) : Rat) + ((1 : Int) : Rat) * 100 then 50 * ((((-0 : Int)) : Rat) + ((1 : Int) : Rat) * 100) else 0) < ((80 : Int) : Rat) * ((((-0 : Int)) : Rat) + ((1 : Int) : Rat) * (ofQ ((75 : Int) : Rat)).val)
 rw [ofQ_val]
 decide +kernel
theorem pH : eV b2 = .tup [.agg (eA (jS 0)),I 13] := by
 have h1 : gz b2 cN = false := by
  cases h : gz b2 cN with
  |false => rfl
  |true =>
   obtain ⟨_,h2⟩ := lg.1 h
   rw [t7,show cN.z.val = 1 from xH,show cN.t.val = 0 from zero_val] at h2
   have h3 : ((80 : Int) : Rat) * (1 + 0 * (ofQ ((75 : Int) : Rat)).val) = 80 := by rw [ofQ_val];decide +kernel
   have h2 : (0 : Rat) + (if 0 < (1 : Rat) + 0 * 0 then 50 * (1 + 0 * 0) else 0) + (if 0 < (1 : Rat) + 0 * 100 then 50 * (1 + 0 * 100) else 0) < ((80 : Int) : Rat) * (1 + 0 * (ofQ ((75 : Int) : Rat)).val) := h2
   rw [h3] at h2
   grind
 have h2 := Ae
 rw [eV,if_neg (by rw [h1];decide),cG,sa]
 show (match (jS 0 :: _).find? (gz b2) with | some r => PV.tup [.agg (eA r),I 13] | none => .tup [.agg (zN ++ zN),I 0]) = _
 rw [List.find?_cons,h2]
def tO (s : SR) : Prop := i64 s.x ∧ ∀ z ∈ s.k.S,i64 z
def qJ (l : List SR) : Prop := ∀ s ∈ l,tO s
def qp (st : Nat) (s : SR) : Prop := s.k.S.length ≤ st ∧ s.k.M.length ≤ st + 1 ∧ s.c.sz 3 ∧ ∀ m ∈ s.k.M,m.sz 3
def mX (l : List SR) (most st : Nat) : Prop := l.length ≤ most ∧ ∀ s ∈ l,qp st s
theorem RR.sz.mono {x : RR} {n m : Nat} (h : x.sz n) (hm : n ≤ m) : x.sz m := ⟨Nat.le_trans h.1 hm,Nat.le_trans h.2 hm⟩
theorem qr {l : List SR} {most st : Nat} (hd : qJ l) (h : mX l most st) (hm : most ≤ 1000) (hst : st ≤ 1000) : fE l := by
 refine ⟨fun s hs => ?_,by have := h.1;omega⟩
 obtain ⟨h1,h2,h3,h4⟩ := h.2 s hs
 exact ⟨(hd s hs).1,h3.mono (by decide),⟨(hd s hs).2,fun m hm => (h4 m hm).mono (by decide),by omega,by omega⟩⟩
theorem lC {x : RR} (h : x.sz 3) : hq x.val 4 := SZ.hq (n := 3) ⟨h⟩
section
variable {α : Type}
variable {key : α → Rat}
end
section
variable {α : Type} {key : α → Rat}
end
variable {α : Type} {key : α → Rat}
end Go.Pv
set_option maxHeartbeats 2000000
namespace Go.Pv
attribute [local irreducible] PWP POps PQuiet PSem aC au aj ai
open Go.Proofs
def zA : AR := ⟨RR.zero,RR.zero⟩
def zg (a : AR) (F : List RR) : List PV := eA a ++ [.sl (F.map eR)]
def zS : List PV := zN ++ zN ++ [.nil]
theorem WeakL.append {a b c d : List PV} (h1 : WeakL a b) (h2 : WeakL c d) : WeakL (a ++ c) (b ++ d) := by
 induction h1 with
 |nil => exact h2
 |cons h _ ih => exact .cons h ih
structure SQ where
 a : AR
 F : List RR
 r : AR
 e : Int
def SQ.pv (q : SQ) : PV := .tup [.agg (zg q.a q.F),.agg (eA q.r),I q.e]
noncomputable def yC (b : BR) : Rat × Rat := ((bd b).eqQ 150000).getD (0,0)
noncomputable def fv (b : BR) : SQ :=
 if aH b = 0 then
  if gz b cN = true then ⟨zA,[],cN,12⟩
  else match (cG b.l).find? (gz b) with
   |some r => ⟨zA,[],r,13⟩
   |none => if je b (yC b).1 (yC b).2 = true then ⟨zA,[],zA,14⟩ else ⟨⟨ofQ (yC b).1,ofQ (yC b).2⟩,FL b.l (yC b).1 (yC b).2,zA,0⟩
 else ⟨zA,[],zA,aH b⟩
noncomputable def fk (b : BR) : List RR × Int :=
 if aH b = 0 then
  if gz b cN = true then ([],12)
  else match (cG b.l).find? (gz b) with
   |some _ => ([],13)
   |none => (FL b.l (yC b).1 (yC b).2,0)
 else ([],aH b)
def BR.Good (b : BR) : Prop := b.Lim ∧ (aH b = 0 → b.Ok ∧ (bd b).Sz ∧ ∀ t,(kr b.l t).length ≤ 40)
set_option maxRecDepth 20000 in
theorem qy (b : BR) (hb : b.Lim) (h0 : aH b = 0) (r : AR) (e : Int) (he : e ≠ 0) (h93 : Ret Tryz.prog .shared 93 [.agg (eB b)] (.tup [.agg (eA r),I e])) : Ret Tryz.prog .shared 41 [.agg (eB b)] (.tup [.agg zS,.agg (eA r),I e]) := by
 have h1 := bh b hb
 rw [h0] at h1
 clear h0 hb
 refine Ret.of_pwp layOk mixed Go.Proofs.Tryz.func41 rfl (by decide) rfl rfl ?_
 repeat refine ac rfl ?_
 refine aT rfl rfl rfl h1 rfl rfl rfl ?_
 repeat refine ac rfl ?_
 refine aq rfl rfl rfl h93 rfl rfl ?_
 repeat refine ac rfl ?_
 refine ae rfl ?_ ?_<;>intro h
 ·clear h
  repeat refine ac rfl ?_
  refine bM [2,3] [3,4] (by decide +kernel) ?_
  repeat refine ac rfl ?_
  repeat refine ac rfl ?_
  exact aF rfl rfl rfl
 ·exfalso
  simp at h
  exact he h
set_option maxRecDepth 20000 in
theorem tv (b : BR) (hb : b.Lim) (h0 : aH b = 0) (h93 : Ret Tryz.prog .shared 93 [.agg (eB b)] (.tup [.agg (zN ++ zN),I 0])) (a : AR) (F : List RR) (h120 : Ret Tryz.prog .shared 120 [.agg (eB b)] (.agg (eA a)))
  (h121 : Ret Tryz.prog .shared 121 [.agg (eB b),.agg (eA a)] (.bool false)) (h23 : Ret Tryz.prog .shared 23 [.sl (b.l.map eS),.agg (eA a)] (.tup [.sl (F.map eR),I 0])) : Ret Tryz.prog .shared 41 [.agg (eB b)] (.tup [.agg (zg a F),.agg (zN ++ zN),I 0]) := by
 have h1 := bh b hb
 rw [h0] at h1
 clear h0 hb
 refine Ret.of_pwp layOk mixed Go.Proofs.Tryz.func41 rfl (by decide) rfl rfl ?_
 repeat refine ac rfl ?_
 refine aT rfl rfl rfl h1 rfl rfl rfl ?_
 repeat refine ac rfl ?_
 refine aq rfl rfl rfl h93 rfl rfl ?_
 repeat refine ac rfl ?_
 refine aq rfl rfl rfl h120 rfl rfl ?_
 repeat refine ac rfl ?_
 refine aT rfl rfl rfl h121 rfl rfl rfl ?_
 repeat refine ac rfl ?_
 refine aq rfl rfl rfl h23 rfl rfl ?_
 repeat refine ac rfl ?_
 exact aF rfl rfl rfl
set_option maxRecDepth 20000 in
theorem pI (n : Nat) (hn : n < 18446744073709551616) : Ret Tryz.prog .shared 140 [.int .u64 (n : Nat)] (.sl ((ao n).map eU)) := by
 refine Ret.of_pwp layOk mixed Go.Proofs.Tryz.func140 rfl (by decide) rfl rfl ?_
 ((repeat (first | refine aR ?_ | refine bV ?_ | refine bR ?_ | refine bQ ?_));refine aY ?_)
 refine gy rfl trivial ?_
 ((repeat (first | refine aR ?_ | refine bV ?_ | refine bR ?_ | refine bQ ?_));refine aY ?_)
 (first | refine ay (eE 180 1 0 rfl rfl ?_) | refine ay (ez 180 1 0 rfl rfl ?_))
 repeat refine ac rfl ?_
 refine ax (fun q : Nat × List UInt16 => (ao n = q.2 ++ ao q.1 ∧ q.1 < 18446744073709551616) ∧ q.1 * 65536 ^ q.2.length ≤ n) (fun q => [(0,.int .u64 (q.1 : Nat)),(3,.als 3 (1 + q.2.length) 0 (q.2.map eU).length)]) (fun q => [(3,1 + q.2.length,⟨180,1,q.2.map eU,0⟩)]) (fun q => q.1) (n,[]) ⟨⟨rfl,hn⟩,by simp⟩ ⟨rfl,rfl,rfl,trivial⟩ ?_
 rintro ⟨m,L⟩ s ⟨⟨hL,hmn⟩,hb⟩
 simp only at hL hb hmn
 dsimp only
 repeat refine ac rfl ?_
 refine ae rfl ?_ ?_<;>intro h
 ·have hm : 0 < m := by have := of_decide_eq_true h;omega
  clear h
  have hLl : L.length < 4 := by
   rcases Nat.lt_or_ge L.length 4 with h | h
   ·exact h
   ·exfalso
    have h1 : 65536 ^ 4 ≤ 65536 ^ L.length := Nat.pow_le_pow_right (by decide) h
    have h2 := Nat.mul_le_mul (show 1 ≤ m by omega) h1
    have : 1 * 65536 ^ 4 = 18446744073709551616 := by decide
    omega
  have hL2 := kQ hL hm
  have hb2 : m / 65536 * 65536 ^ (L ++ [UInt16.ofNat m]).length ≤ n := by
   rw [List.length_append,List.length_singleton,Nat.pow_succ,Nat.mul_comm (65536 ^ _),← Nat.mul_assoc]
   exact Nat.le_trans (Nat.mul_le_mul_right _ (Nat.div_mul_le_self _ _)) hb
  have ha := yw m hmn
  have hcv : IntKind.u16.wrap ((m - m / 65536 * 65536 : Nat) : Int) = ((UInt16.ofNat m).toNat : Int) := by rw [wrap_u16,aL,aL];omega
  repeat refine ac rfl ?_
  rw [ha,hcv]
  refine bx rfl rfl (da rfl rfl rfl rfl rfl rfl rfl rfl rfl rfl (by repeat' constructor) rfl) ?_
  refine ay (bC 0 rfl rfl rfl rfl rfl rfl rfl rfl rfl rfl rfl (by repeat' constructor) (by intro row hr;first | (simp at hr;subst hr;rfl) | simp at hr) rfl rfl (by simp;omega) (by simp;omega) ?_)
  repeat refine ac rfl ?_
  refine ⟨(m / 65536,L ++ [UInt16.ofNat m]),⟨⟨hL2,by simp only;omega⟩,hb2⟩,by simp only;omega,?_,?_,?_,trivial⟩
  ·show PV.int .u64 ((m : Int) / 2 ^ (16 : Int).toNat) = PV.int .u64 ((m / 65536 : Nat) : Int)
   rw [show ((2 : Int) ^ (16 : Int).toNat) = 65536 by decide];congr 1
  ·exact jU eU 3 1 L (UInt16.ofNat m)
  ·exact iy eU 1 180 1 0 L (UInt16.ofNat m)
 ·have hm : m = 0 := by have := of_decide_eq_false h;omega
  subst hm
  clear h
  rw [a_,List.append_nil] at hL
  rw [hL]
  repeat refine ac rfl ?_
  exact eM rfl rfl rfl ⟨rfl,rfl,rfl⟩ rfl
set_option maxRecDepth 20000 in
theorem m7 (z : Int) (hz : i64 z) : Ret Tryz.prog .shared 86 [I z] (.agg (eI (bz z))) := by
 obtain ⟨h0,h1⟩ := hz
 have hn := pI z.natAbs (by omega)
 by_cases hz : z < 0
 ·rw [bz,decide_eq_true hz]
  have w1 : IntKind.i64.wrap (z + 1) = z + 1 := wrap_i64 (by omega) (by omega)
  have w2 : IntKind.i64.wrap (0 - (z + 1)) = 0 - (z + 1) := wrap_i64 (by omega) (by omega)
  have w3 : IntKind.u64.wrap (0 - (z + 1)) = 0 - (z + 1) := wrap_u64 (by omega) (by omega)
  have w4 : IntKind.u64.wrap (0 - (z + 1) + 1) = ((z.natAbs : Nat) : Int) := by rw [wrap_u64 (by omega) (by omega)];omega
  generalize ao z.natAbs = A at *
  generalize ((z.natAbs : Nat) : Int) = na at *
  refine Ret.of_pwp layOk mixed Go.Proofs.Tryz.func86 rfl (by decide) rfl rfl ?_
  repeat refine ac rfl ?_
  refine ae rfl ?_ ?_<;>intro h
  ·clear h
   repeat refine ac rfl ?_
   rw [w1]
   repeat refine ac rfl ?_
   rw [w2]
   repeat refine ac rfl ?_
   rw [w3]
   repeat refine ac rfl ?_
   rw [w4]
   repeat refine ac rfl ?_
   refine aq rfl rfl rfl hn rfl rfl ?_
   repeat refine ac rfl ?_
   exact aF rfl rfl rfl
  ·exact absurd hz (of_decide_eq_false h)
 ·rw [bz,decide_eq_false hz]
  have w : IntKind.u64.wrap z = ((z.natAbs : Nat) : Int) := by rw [wrap_u64 (by omega) (by omega)];omega
  generalize ao z.natAbs = A at *
  refine Ret.of_pwp layOk mixed Go.Proofs.Tryz.func86 rfl (by decide) rfl rfl ?_
  repeat refine ac rfl ?_
  refine ae rfl ?_ ?_<;>intro h
  ·exact absurd (of_decide_eq_true h) hz
  ·clear h
   repeat refine ac rfl ?_
   rw [w]
   refine aq rfl rfl rfl hn rfl rfl ?_
   repeat refine ac rfl ?_
   exact aF rfl rfl rfl
theorem dB (z : Int) (hz : i64 z) : Ret Tryz.prog .shared 25 [I z] (.agg (eR (ofQ (z : Rat)))) := by
 have h1 := m7 z hz
 have h2 := m7 1 ⟨by decide,by decide⟩
 rw [oV]
 generalize bz z = X at *
 generalize bz 1 = Y at *
 refine Ret.of_pwp layOk mixed Go.Proofs.Tryz.func25 rfl (by decide) rfl rfl ?_
 repeat refine ac rfl ?_
 refine aq rfl rfl rfl h1 rfl rfl ?_
 repeat refine ac rfl ?_
 refine aq rfl rfl rfl h2 rfl rfl ?_
 repeat refine ac rfl ?_
 exact aF rfl rfl rfl
set_option maxRecDepth 20000 in
theorem mH (a : RI) (ha : a.l.length ≤ 1000000000) : Ret Tryz.prog .shared 101 [.agg (eI a),.agg (eI a)] (.bool true) := by
 obtain ⟨n,l⟩ := a
 simp only at ha
 have hml : (l.map eU).length = l.length := by simp
 have hnn : (n != n) = false := by cases n <;> rfl
 have main : ∀ nn : Bool,nn = n → Ret Tryz.prog .shared 101 [.agg [.bool nn,.sl (l.map eU)],.agg [.bool nn,.sl (l.map eU)]] (.bool true) := by
  intro nn _
  cases nn <;>
  ·refine Ret.of_pwp layOk mixed Go.Proofs.Tryz.func101 rfl (by decide) rfl rfl ?_
   repeat refine ac rfl ?_
   refine ae rfl ?_ ?_<;>intro h
   ·simp at h
   clear h
   repeat refine ac rfl ?_
   refine ax (fun k => k ≤ l.length) (fun k => [(2,.ptr 2 1 0 0),(3,.ptr 3 1 0 0),(5,I (k : Nat))]) (fun _ => [(2,1,⟨24,2,[eI ⟨_,l⟩],2⟩),(3,1,⟨24,2,[eI ⟨_,l⟩],2⟩)]) (fun k => l.length - k) 0 (Nat.zero_le _) ⟨rfl,rfl,rfl,rfl,rfl,trivial⟩ ?_
   intro k s hk
   repeat refine ac rfl ?_
   refine ae rfl ?_ ?_<;>intro h
   ·have hlt : k < l.length := by have := of_decide_eq_true h;simp only [List.length_map] at this;omega
    clear h
    obtain ⟨x,hx⟩ := aM hlt
    have hw := f7 k
    repeat refine ac rfl ?_
    refine am 11 [27,28,29,30,31,32,33,34,35,36,37] (by decide +kernel) ?_
    repeat refine ac rfl ?_
    refine bm rfl rfl rfl rfl rfl rfl rfl hx rfl ?_
    repeat refine ac rfl ?_
    refine bm rfl rfl rfl rfl rfl rfl rfl hx rfl ?_
    repeat refine ac rfl ?_
    refine ae rfl ?_ ?_<;>intro h
    ·simp at h
    clear h
    repeat refine ac rfl ?_
    exact ⟨k + 1,hlt,by omega,rfl,rfl,congrArg I hw,rfl,rfl,trivial⟩
   ·repeat refine ac rfl ?_
    exact bj rfl rfl rfl
 exact main n rfl
def RR.le (x : RR) (n : Nat) : Prop := x.n.l.length ≤ n ∧ x.d.l.length ≤ n
theorem mI (x : RR) (hx : x.le 1000000000) : Ret Tryz.prog .shared 32 [.agg (eR x),.agg (eR x)] (.bool true) := by
 have h1 := mH x.n hx.1
 have h2 := mH x.d hx.2
 obtain ⟨xn,xd⟩ := x
 refine Ret.of_pwp layOk mixed Go.Proofs.Tryz.func32 rfl (by decide) rfl rfl ?_
 repeat refine ac rfl ?_
 refine aT rfl rfl rfl h1 rfl rfl rfl ?_
 repeat refine ac rfl ?_
 refine aT rfl rfl rfl h2 rfl rfl rfl ?_
 repeat refine ac rfl ?_
 exact bj rfl rfl rfl
theorem lp {p : Rat} {n : Nat} (h : HQ p n) (hn : n ≤ 100000000) : Ret Tryz.prog .shared 32 [.agg (eR (ofQ p)),.agg (eR (ofQ p))] (.bool true) := by
 have := c7 h.ok
 exact mI _ ⟨by omega,by omega⟩
theorem qk (l : List RR) (hl : l.length ≤ 1000000) (hs : ∀ x ∈ l,x.le 1000000000) : Ret Tryz.prog .shared 45 [.sl (l.map eR),.sl (l.map eR)] (.bool true) := by
 have hml : (l.map eR).length = l.length := by simp
 refine Ret.of_pwp layOk mixed Go.Proofs.Tryz.func45 rfl (by decide) rfl rfl ?_
 repeat refine ac rfl ?_
 refine ae rfl ?_ ?_<;>intro h
 ·simp at h
 clear h
 repeat refine ac rfl ?_
 refine ax (fun k => k ≤ l.length) (fun k => [(0,.sl (l.map eR)),(1,.sl (l.map eR)),(5,I (k : Nat))]) (fun _ => []) (fun k => l.length - k) 0 (Nat.zero_le _) ⟨rfl,rfl,rfl,trivial⟩ ?_
 intro k s hk
 repeat refine ac rfl ?_
 refine ae rfl ?_ ?_<;>intro h
 ·have hlt : k < l.length := by have := of_decide_eq_true h;omega
  clear h
  obtain ⟨x,hx⟩ := aM hlt
  have hxr := mI x (hs x (List.mem_of_getElem? hx))
  have hw := f7 k
  repeat refine ac rfl ?_
  refine am 10 [17,18,19,20,21,22,23,24,25,26] (by decide +kernel) ?_
  repeat refine ac rfl ?_
  refine bm rfl rfl rfl rfl rfl rfl rfl hx rfl ?_
  repeat refine ac rfl ?_
  refine bm rfl rfl rfl rfl rfl rfl rfl hx rfl ?_
  repeat refine ac rfl ?_
  refine aT rfl rfl rfl hxr rfl rfl rfl ?_
  repeat refine ac rfl ?_
  exact ⟨k + 1,hlt,by omega,rfl,rfl,congrArg I hw,trivial⟩
 ·repeat refine ac rfl ?_
  exact bj rfl rfl rfl
theorem uO (l : List Int) (hl : l.length ≤ 1000000) : Ret Tryz.prog .shared 60 [.sl (l.map eN),.sl (l.map eN)] (.bool true) := by
 have hml : (l.map eN).length = l.length := by simp
 refine Ret.of_pwp layOk mixed Go.Proofs.Tryz.func60 rfl (by decide) rfl rfl ?_
 repeat refine ac rfl ?_
 refine ae rfl ?_ ?_<;>intro h
 ·simp at h
 clear h
 repeat refine ac rfl ?_
 refine ax (fun k => k ≤ l.length) (fun k => [(0,.sl (l.map eN)),(1,.sl (l.map eN)),(5,I (k : Nat))]) (fun _ => []) (fun k => l.length - k) 0 (Nat.zero_le _) ⟨rfl,rfl,rfl,trivial⟩ ?_
 intro k s hk
 repeat refine ac rfl ?_
 refine ae rfl ?_ ?_<;>intro h
 ·have hlt : k < l.length := by have := of_decide_eq_true h;omega
  clear h
  obtain ⟨x,hx⟩ := aM hlt
  have hw := f7 k
  repeat refine ac rfl ?_
  refine am 9 [17,18,19,20,21,22,23,24,25] (by decide +kernel) ?_
  repeat refine ac rfl ?_
  refine bm rfl rfl rfl rfl rfl rfl rfl hx rfl ?_
  repeat refine ac rfl ?_
  refine bm rfl rfl rfl rfl rfl rfl rfl hx rfl ?_
  repeat refine ac rfl ?_
  refine ae rfl ?_ ?_<;>intro h
  ·simp at h
  clear h
  repeat refine ac rfl ?_
  exact ⟨k + 1,hlt,by omega,rfl,rfl,congrArg I hw,trivial⟩
 ·repeat refine ac rfl ?_
  exact bj rfl rfl rfl
def n0 (x : RR) (n : Nat) : Bool := decide (x.n.l.length ≤ n) && decide (x.d.l.length ≤ n)
theorem nR {x : RR} {n : Nat} : n0 x n = true ↔ x.sz n := by rw [n0,Bool.and_eq_true,decide_eq_true_eq,decide_eq_true_eq];rfl
theorem fu (x : RR) (n : Nat) (hn : n ≤ 1000000) : Ret Tryz.prog .shared 17 [.agg (eR x),I (n : Nat)] (.bool (n0 x n)) := by
 have e1 : decide ((((x.n.l.map eU).length : Nat) : Int) ≤ (n : Int)) = decide (x.n.l.length ≤ n) := by rw [decide_eq_decide,List.length_map];omega
 have e2 : decide ((((x.d.l.map eU).length : Nat) : Int) ≤ (n : Int)) = decide (x.d.l.length ≤ n) := by rw [decide_eq_decide,List.length_map];omega
 rw [n0,← e1,← e2]
 obtain ⟨⟨xn,xl⟩,⟨yn,yl⟩⟩ := x
 refine Ret.of_pwp layOk mixed Go.Proofs.Tryz.func17 rfl (by decide) rfl rfl ?_
 repeat refine ac rfl ?_
 refine cb rfl rfl rfl ?_ ?_<;>intro h
 ·rw [h]
  clear h
  repeat refine ac rfl ?_
  exact bj rfl rfl rfl
 ·rw [h]
  clear h
  repeat refine ac rfl ?_
  exact bj rfl rfl rfl
theorem nT (l : List RR) (n : Nat) (hn : n ≤ 1000000) (hl : l.length ≤ 9223372036854775807) : Ret Tryz.prog .shared 36 [.sl (l.map eR),I (n : Nat)] (.bool (l.all fun x => n0 x n)) := by
 have hml : (l.map eR).length = l.length := by simp
 generalize hF : (l.all fun x => n0 x n) = F
 refine Ret.of_pwp layOk mixed Go.Proofs.Tryz.func36 rfl (by decide) rfl rfl ?_
 repeat refine ac rfl ?_
 refine ax (fun k => k ≤ l.length ∧ ((l.drop k).all fun x => n0 x n) = F) (fun k => [(0,.sl (l.map eR)),(1,I (n : Nat)),(5,I (k : Nat))]) (fun _ => []) (fun k => l.length - k) 0 ⟨Nat.zero_le _,by rw [List.drop_zero];exact hF⟩ ⟨rfl,rfl,rfl,trivial⟩ ?_
 intro k s ⟨hk,hD⟩
 repeat refine ac rfl ?_
 refine ae rfl ?_ ?_<;>intro h
 ·have hlt : k < l.length := by have := of_decide_eq_true h;omega
  clear h
  obtain ⟨x,hx⟩ := aM hlt
  have hr := fu x n hn
  have hw := f7 k
  have hdr : ((l.drop k).all fun x => n0 x n) = (n0 x n && (l.drop (k + 1)).all fun x => n0 x n) := by
   obtain ⟨hl1,h2⟩ := List.getElem?_eq_some_iff.1 hx
   rw [List.drop_eq_getElem_cons hl1,h2,List.all_cons]
  rw [hdr] at hD
  cases hs : n0 x n with
  |true =>
   rw [hs] at hr hD
   rw [Bool.true_and] at hD
   repeat refine ac rfl ?_
   refine bm rfl rfl rfl rfl rfl rfl rfl hx rfl ?_
   repeat refine ac rfl ?_
   refine aT rfl rfl rfl hr rfl rfl rfl ?_
   repeat refine ac rfl ?_
   exact ⟨k + 1,⟨hlt,hD⟩,by omega,rfl,rfl,congrArg I hw,trivial⟩
  |false =>
   rw [hs] at hr hD
   rw [Bool.false_and] at hD
   subst hD
   repeat refine ac rfl ?_
   refine bm rfl rfl rfl rfl rfl rfl rfl hx rfl ?_
   repeat refine ac rfl ?_
   refine aT rfl rfl rfl hr rfl rfl rfl ?_
   repeat refine ac rfl ?_
   exact bj rfl rfl rfl
 ·have hie : k = l.length := by have := of_decide_eq_false h;omega
  clear h
  rw [hie,List.drop_length,List.all_nil] at hD
  subst hD
  repeat refine ac rfl ?_
  exact bj rfl rfl rfl
def tK (st : Nat) (s : SR) : Bool := !(decide (st < s.k.S.length) || decide (st + 1 < s.k.M.length) || !n0 s.c 3 || !(s.k.M.all fun x => n0 x 3))
theorem rG {st : Nat} {s : SR} : tK st s = true ↔ qp st s := by
 rw [tK,qp]
 simp only [Bool.not_eq_true',Bool.or_eq_false_iff,decide_eq_false_iff_not,Bool.not_eq_false',List.all_eq_true,nR]
 constructor
 ·rintro ⟨⟨⟨h1,h2⟩,h3⟩,h4⟩;exact ⟨by omega,by omega,h3,h4⟩
 ·rintro ⟨h1,h2,h3,h4⟩;exact ⟨⟨⟨by omega,by omega⟩,h3⟩,h4⟩
def zG (l : List SR) (most st : Nat) : Bool := decide (l.length ≤ most) && l.all (tK st)
theorem rF {l : List SR} {most st : Nat} : zG l most st = true ↔ mX l most st := by
 rw [zG,Bool.and_eq_true,decide_eq_true_eq,List.all_eq_true,mX]
 constructor
 ·rintro ⟨h1,h2⟩;exact ⟨h1,fun s hs => rG.1 (h2 s hs)⟩
 ·rintro ⟨h1,h2⟩;exact ⟨h1,fun s hs => rG.2 (h2 s hs)⟩
def wS (l : List SR) : Prop := l.length ≤ 9223372036854775807 ∧ ∀ s ∈ l,s.k.S.length ≤ 9223372036854775807 ∧ s.k.M.length ≤ 9223372036854775807
set_option maxRecDepth 20000 in
theorem qo (l : List SR) (hll : wS l) (most st : Nat) (hm : most ≤ 1000) (hst : st ≤ 1000) : Ret Tryz.prog .shared 16 [.sl (l.map eS),I (most : Nat),I (st : Nat)] (.bool (zG l most st)) := by
 have hml : (l.map eS).length = l.length := by simp
 by_cases h0 : most < l.length
 ·rw [zG,decide_eq_false (by omega),Bool.false_and]
  refine Ret.of_pwp layOk mixed Go.Proofs.Tryz.func16 rfl (by decide) rfl rfl ?_
  repeat refine ac rfl ?_
  refine ae rfl ?_ ?_<;>intro h
  ·clear h
   repeat refine ac rfl ?_
   exact bj rfl rfl rfl
  ·have := of_decide_eq_false h;omega
 rw [zG,decide_eq_true (by omega),Bool.true_and]
 generalize hF : (l.all (tK st)) = F
 refine Ret.of_pwp layOk mixed Go.Proofs.Tryz.func16 rfl (by decide) rfl rfl ?_
 repeat refine ac rfl ?_
 refine ae rfl ?_ ?_<;>intro h
 ·have := of_decide_eq_true h;omega
 clear h
 repeat refine ac rfl ?_
 refine ax (fun k => k ≤ l.length ∧ ((l.drop k).all (tK st)) = F) (fun k => [(0,.sl (l.map eS)),(2,I (st : Nat)),(7,I (k : Nat))]) (fun _ => []) (fun k => l.length - k) 0 ⟨Nat.zero_le _,by rw [List.drop_zero];exact hF⟩ ⟨rfl,rfl,rfl,trivial⟩ ?_
 intro k s ⟨hk,hD⟩
 repeat refine ac rfl ?_
 refine ae rfl ?_ ?_<;>intro h
 ·have hlt : k < l.length := by have := of_decide_eq_true h;omega
  clear h
  obtain ⟨x,hx⟩ := aM hlt
  have hl2 := hll.2 x (List.mem_of_getElem? hx)
  have hr := fu x.c 3 (by decide)
  have hr2 := nT x.k.M 3 (by decide) (by omega)
  have hw := f7 k
  have hws : IntKind.i64.wrap (((st : Nat) : Int) + 1) = ((st + 1 : Nat) : Int) := by rw [wrap_i64 (by omega) (by omega)];omega
  have hdr : ((l.drop k).all (tK st)) = (tK st x && (l.drop (k + 1)).all (tK st)) := by
   obtain ⟨hl1,h2⟩ := List.getElem?_eq_some_iff.1 hx
   rw [List.drop_eq_getElem_cons hl1,h2,List.all_cons]
  rw [hdr] at hD
  have hsx : tK st x = tK st x := rfl
  conv at hsx => rhs;rw [tK]
  generalize tK st x = ok at *
  generalize n0 x.c 3 = o1 at *
  obtain ⟨o2,ho2⟩ : ∃ o2,(x.k.M.all fun y => n0 y 3) = o2 := ⟨_,rfl⟩
  rw [ho2] at hsx hr2
  clear ho2
  obtain ⟨xx,xc,⟨xS,xM⟩⟩ := x
  simp only at *
  have lS : (xS.map eN).length = xS.length := by simp
  have lM : (xM.map eR).length = xM.length := by simp
  by_cases hb1 : st < xS.length
  ·rw [decide_eq_true hb1] at hsx
   simp only [Bool.true_or,Bool.not_true] at hsx
   subst hsx
   rw [Bool.false_and] at hD
   subst hD
   repeat refine ac rfl ?_
   refine bm rfl rfl rfl rfl rfl rfl rfl hx rfl ?_
   repeat refine ac rfl ?_
   refine cb rfl rfl rfl ?_ ?_<;>intro h
   ·clear h
    repeat refine ac rfl ?_
    exact bj rfl rfl rfl
   ·exfalso
    have := of_decide_eq_false h
    simp only [lS] at this
    omega
  rw [decide_eq_false hb1,Bool.false_or] at hsx
  by_cases hb2 : st + 1 < xM.length
  ·rw [decide_eq_true hb2] at hsx
   simp only [Bool.true_or,Bool.not_true] at hsx
   subst hsx
   rw [Bool.false_and] at hD
   subst hD
   repeat refine ac rfl ?_
   refine bm rfl rfl rfl rfl rfl rfl rfl hx rfl ?_
   repeat refine ac rfl ?_
   refine cb rfl rfl rfl ?_ ?_<;>intro h
   ·exfalso
    have := of_decide_eq_true h
    simp only [lS] at this
    omega
   ·clear h
    repeat refine ac rfl ?_
    rw [hws]
    repeat refine ac rfl ?_
    refine cb rfl rfl rfl ?_ ?_<;>intro h
    ·clear h
     repeat refine ac rfl ?_
     exact bj rfl rfl rfl
    ·exfalso
     have := of_decide_eq_false h
     simp only [lM] at this
     omega
  rw [decide_eq_false hb2,Bool.false_or] at hsx
  cases o1 with
  |false =>
   simp only [Bool.not_false,Bool.true_or,Bool.not_true] at hsx
   subst hsx
   rw [Bool.false_and] at hD
   subst hD
   repeat refine ac rfl ?_
   refine bm rfl rfl rfl rfl rfl rfl rfl hx rfl ?_
   repeat refine ac rfl ?_
   refine cb rfl rfl rfl ?_ ?_<;>intro h
   ·exfalso
    have := of_decide_eq_true h
    simp only [lS] at this
    omega
   ·clear h
    repeat refine ac rfl ?_
    rw [hws]
    repeat refine ac rfl ?_
    refine cb rfl rfl rfl ?_ ?_<;>intro h
    ·exfalso
     have := of_decide_eq_true h
     simp only [lM] at this
     omega
    ·clear h
     repeat refine ac rfl ?_
     refine bm rfl rfl rfl rfl rfl rfl rfl hx rfl ?_
     repeat refine ac rfl ?_
     refine aT rfl rfl rfl hr rfl rfl rfl ?_
     repeat refine ac rfl ?_
     exact bj rfl rfl rfl
  |true =>
   simp only [Bool.not_true,Bool.false_or,Bool.not_not] at hsx
   subst hsx
   cases ok with
   |false =>
    rw [Bool.false_and] at hD
    subst hD
    repeat refine ac rfl ?_
    refine bm rfl rfl rfl rfl rfl rfl rfl hx rfl ?_
    repeat refine ac rfl ?_
    refine cb rfl rfl rfl ?_ ?_<;>intro h
    ·exfalso
     have := of_decide_eq_true h
     simp only [lS] at this
     omega
    ·clear h
     repeat refine ac rfl ?_
     rw [hws]
     repeat refine ac rfl ?_
     refine cb rfl rfl rfl ?_ ?_<;>intro h
     ·exfalso
      have := of_decide_eq_true h
      simp only [lM] at this
      omega
     ·clear h
      repeat refine ac rfl ?_
      refine bm rfl rfl rfl rfl rfl rfl rfl hx rfl ?_
      repeat refine ac rfl ?_
      refine aT rfl rfl rfl hr rfl rfl rfl ?_
      repeat refine ac rfl ?_
      refine aT rfl rfl rfl hr2 rfl rfl rfl ?_
      repeat refine ac rfl ?_
      exact bj rfl rfl rfl
   |true =>
    rw [Bool.true_and] at hD
    repeat refine ac rfl ?_
    refine bm rfl rfl rfl rfl rfl rfl rfl hx rfl ?_
    repeat refine ac rfl ?_
    refine cb rfl rfl rfl ?_ ?_<;>intro h
    ·exfalso
     have := of_decide_eq_true h
     simp only [lS] at this
     omega
    ·clear h
     repeat refine ac rfl ?_
     rw [hws]
     repeat refine ac rfl ?_
     refine cb rfl rfl rfl ?_ ?_<;>intro h
     ·exfalso
      have := of_decide_eq_true h
      simp only [lM] at this
      omega
     ·clear h
      repeat refine ac rfl ?_
      refine bm rfl rfl rfl rfl rfl rfl rfl hx rfl ?_
      repeat refine ac rfl ?_
      refine aT rfl rfl rfl hr rfl rfl rfl ?_
      repeat refine ac rfl ?_
      refine aT rfl rfl rfl hr2 rfl rfl rfl ?_
      repeat refine ac rfl ?_
      exact ⟨k + 1,⟨hlt,hD⟩,by omega,rfl,rfl,congrArg I hw,trivial⟩
 ·have hie : k = l.length := by have := of_decide_eq_false h;omega
  clear h
  rw [hie,List.drop_length,List.all_nil] at hD
  subst hD
  repeat refine ac rfl ?_
  exact bj rfl rfl rfl
def eT (b : BR) : Bool := zG b.l 10 4 && n0 b.a 3
theorem uV (b : BR) (hll : wS b.l) : Ret Tryz.prog .shared 30 [.agg (eB b)] (.bool (eT b)) := by
 have h1 := qo b.l hll 10 4 (by decide) (by decide)
 have h2 := fu b.a 3 (by decide)
 rw [eT]
 generalize zG b.l 10 4 = x1 at *
 generalize n0 b.a 3 = x2 at *
 obtain ⟨w,a,l⟩ := b
 simp only at *
 cases x1
 ·rw [Bool.false_and]
  refine Ret.of_pwp layOk mixed Go.Proofs.Tryz.func30 rfl (by decide) rfl rfl ?_
  repeat refine ac rfl ?_
  refine aT rfl rfl rfl h1 rfl rfl rfl ?_
  repeat refine ac rfl ?_
  exact bj rfl rfl rfl
 ·rw [Bool.true_and]
  refine Ret.of_pwp layOk mixed Go.Proofs.Tryz.func30 rfl (by decide) rfl rfl ?_
  repeat refine ac rfl ?_
  refine aT rfl rfl rfl h1 rfl rfl rfl ?_
  repeat refine ac rfl ?_
  refine aT rfl rfl rfl h2 rfl rfl rfl ?_
  repeat refine ac rfl ?_
  exact bj rfl rfl rfl
set_option maxRecDepth 20000 in
theorem qb (c : CR) (hc : c.Lim) : Ret Tryz.prog .shared 80 [.agg (eC c)] (I (bp c)) := by
 obtain ⟨S,M⟩ := c
 obtain ⟨hs,hm,hls,hlm⟩ := hc
 simp only at hs hm hls hlm
 have hSl : (S.map eN).length = S.length := by simp
 have hMl : (M.map eR).length = M.length := by simp
 generalize hE : bp ⟨S,M⟩ = E
 simp only [bp] at hE
 show Ret Tryz.prog .shared 80 [.agg [.sl (S.map eN),.sl (M.map eR)]] (I E)
 refine Ret.of_pwp layOk mixed Go.Proofs.Tryz.func80 rfl (by decide) rfl rfl ?_
 repeat refine ac rfl ?_
 refine ae rfl ?_ ?_<;>intro h
 ·have h1 := of_decide_eq_true h
  rw [if_pos (by omega)] at hE
  subst hE
  repeat refine ac rfl ?_
  exact aO rfl rfl rfl
 have h40 : ¬ 40 < S.length := by have h1 := of_decide_eq_false h;omega
 rw [if_neg h40] at hE
 clear h
 repeat refine ac rfl ?_
 refine ae rfl ?_ ?_<;>intro h
 ·have h1 : M.length ≠ S.length := by simp at h;omega
  rw [if_pos h1] at hE
  subst hE
  repeat refine ac rfl ?_
  exact aO rfl rfl rfl
 have hSM : M.length = S.length := by simp at h;omega
 rw [if_neg (by omega)] at hE
 clear h
 repeat refine ac rfl ?_
 refine ax (fun i : Nat => i ≤ S.length ∧ bP ⟨S,M⟩ i (S.length - i) = E) (fun i => [(3,I (i : Nat)),(1,.ptr 1 1 0 0)]) (fun _ => [(1,1,⟨120,2,[[.sl (S.map eN),.sl (M.map eR)]],2⟩)]) (fun i => S.length - i) 0 ⟨Nat.zero_le _,hE⟩ ⟨rfl,rfl,rfl,trivial⟩ ?_
 intro i s ⟨hi,hF⟩
 repeat refine ac rfl ?_
 refine ae rfl ?_ ?_<;>intro h
 ·have hlt : i < S.length := by have := of_decide_eq_true h;omega
  clear h
  obtain ⟨k,hk⟩ : ∃ k,S.length - i = k + 1 := ⟨S.length - i - 1,by omega⟩
  rw [hk,bP] at hF
  have hx := aW (d := 0) hlt
  have hmx := aW (l := M) (i := i) (d := RR.zero) (by omega)
  have hse : cd ⟨S,M⟩ i = cd ⟨S,M⟩ i := rfl
  conv at hse => rhs;rw [cd]
  simp only at hse
  generalize cd ⟨S,M⟩ i = se at *
  have hxb := hs _ (List.mem_of_getElem? hx)
  have hmv := (hm _ (List.mem_of_getElem? hmx)).v
  have hsg := lj (M.getD i RR.zero) (hx := hmv) (by decide)
  have hsl := d9 (M.getD i RR.zero).val
  generalize hx0 : S.getD i 0 = x at *
  generalize M.getD i RR.zero = m at *
  generalize sgn m.val = sg at *
  repeat refine ac rfl ?_
  refine bm rfl rfl rfl rfl rfl rfl rfl hx rfl ?_
  repeat refine ac rfl ?_
  refine cb rfl rfl rfl ?_ ?_<;>intro h
  ·have h1 := of_decide_eq_true h
   clear h
   have hS2 : se = 2 := by rw [hse,if_pos (.inl h1)]
   rw [hS2,if_neg (by decide)] at hF
   subst hF
   repeat refine ac rfl ?_
   exact aO rfl rfl rfl
  ·have h1 := of_decide_eq_false h
   clear h
   repeat refine ac rfl ?_
   refine bm rfl rfl rfl rfl rfl rfl rfl hx rfl ?_
   repeat refine ac rfl ?_
   refine cb rfl rfl rfl ?_ ?_<;>intro h
   ·have h2 := of_decide_eq_true h
    clear h
    have hS2 : se = 2 := by rw [hse,if_pos (.inr (.inl h2))]
    rw [hS2,if_neg (by decide)] at hF
    subst hF
    repeat refine ac rfl ?_
    exact aO rfl rfl rfl
   ·have h2 := of_decide_eq_false h
    clear h
    repeat refine ac rfl ?_
    refine bm rfl rfl rfl rfl rfl rfl rfl hmx rfl ?_
    repeat refine ac rfl ?_
    refine aT rfl rfl rfl hsg rfl rfl rfl ?_
    repeat refine ac rfl ?_
    refine ae rfl ?_ ?_<;>intro h
    ·have h3 := of_decide_eq_true h
     clear h
     have hS2 : se = 2 := by rw [hse,if_pos (.inr (.inr (hsl.1 h3)))]
     rw [hS2,if_neg (by decide)] at hF
     subst hF
     repeat refine ac rfl ?_
     exact aO rfl rfl rfl
    ·have h3 := of_decide_eq_false h
     clear h
     rw [if_neg (by rw [← hsl];omega)] at hse
     repeat refine ac rfl ?_
     rcases Nat.eq_zero_or_pos i with hi0 | hi0
     ·subst hi0
      have hS2 : se = 0 := by rw [hse,if_neg (fun h => by omega)]
      rw [if_pos hS2] at hF
      have hw := f7 0
      refine am 16 [45,46,47,48,49,50,51,52,53,54,55,56,57,58,59,60] (by decide +kernel) ?_
      repeat refine ac rfl ?_
      exact ⟨0 + 1,⟨by omega,by rw [show S.length - (0 + 1) = k by omega];exact hF⟩,by omega,congrArg I hw,rfl,rfl,trivial⟩
     ·obtain ⟨j,rfl⟩ : ∃ j,i = j + 1 := ⟨i - 1,by omega⟩
      have hw1 : IntKind.i64.wrap (((j + 1 : Nat) : Int) - 1) = ((j : Nat) : Int) := by rw [wrap_i64 (by omega) (by omega)];omega
      have hy := aW (l := S) (i := j) (d := 0) (by omega)
      rw [show j + 1 - 1 = j by omega] at hse
      generalize S.getD j 0 = y at *
      refine am 16 [45,46,47,48,49,50,51,52,53,54,55,56,57,58,59,60] (by decide +kernel) ?_
      repeat refine ac rfl ?_
      refine cb rfl rfl rfl ?_ ?_<;>intro h
      ·clear h
       repeat refine ac rfl ?_
       refine bm rfl rfl rfl rfl rfl rfl rfl hx rfl ?_
       repeat refine ac rfl ?_
       rw [hw1]
       refine bm rfl rfl rfl rfl rfl rfl rfl hy rfl ?_
       repeat refine ac rfl ?_
       refine ae rfl ?_ ?_<;>intro h
       ·have h5 := of_decide_eq_true h
        clear h
        have hS2 : se = 10 := by rw [hse,if_pos ⟨by omega,h5⟩]
        rw [hS2,if_neg (by decide)] at hF
        subst hF
        repeat refine ac rfl ?_
        exact aO rfl rfl rfl
       ·have h5 := of_decide_eq_false h
        clear h
        have hS2 : se = 0 := by rw [hse,if_neg (fun h => h5 h.2)]
        rw [if_pos hS2] at hF
        have hw : IntKind.i64.wrap (((j + 1 : Nat) : Int) + 1) = ((j + 1 + 1 : Nat) : Int) := by rw [wrap_i64 (by omega) (by omega)];omega
        repeat refine ac rfl ?_
        exact ⟨j + 1 + 1,⟨by omega,by rw [show S.length - (j + 1 + 1) = k by omega];exact hF⟩,by omega,congrArg I hw,rfl,rfl,trivial⟩
      ·have := of_decide_eq_false h
       omega
 ·have hie : i = S.length := by have := of_decide_eq_false h;omega
  rw [hie,Nat.sub_self,bP] at hF
  subst hF
  repeat refine ac rfl ?_
  exact aO rfl rfl rfl
def tF (p : Rat) (lo hi : Int) : Bool := decide ((lo : Rat) ≤ p) && decide (p ≤ (hi : Rat))
theorem lJ (x : RR) {p : Rat} {m : Nat} [hx : Vq x p m] (hm : m ≤ 1000000) (lo hi : Int) (hlo : i64 lo) (hhi : i64 hi) : Ret Tryz.prog .shared 79 [.agg (eR x),I lo,I hi] (.bool (tF p lo hi)) := by
 have w1 := dB lo hlo
 have w2 := dB hi hhi
 have z1 : Zb lo := aN hlo.1 hlo.2
 have z2 : Zb hi := aN hhi.1 hhi.2
 have c1 := jl x (ofQ (lo : Rat)) (by omega) (by decide)
 have c2 := jl x (ofQ (hi : Rat)) (by omega) (by decide)
 have e1 : decide ((lo : Rat) ≤ p) = decide (0 ≤ sgn (p - (lo : Rat))) := by rw [decide_eq_decide,vZ];constructor <;> intro h <;> grind
 have e2 : decide (p ≤ (hi : Rat)) = decide (sgn (p - (hi : Rat)) ≤ 0) := by rw [decide_eq_decide,v8];constructor <;> intro h <;> grind
 rw [tF,e1,e2]
 generalize sgn (p - (lo : Rat)) = g1 at *
 generalize sgn (p - (hi : Rat)) = g2 at *
 generalize ofQ (lo : Rat) = W1 at *
 generalize ofQ (hi : Rat) = W2 at *
 refine Ret.of_pwp layOk mixed Go.Proofs.Tryz.func79 rfl (by decide) rfl rfl ?_
 repeat refine ac rfl ?_
 refine am 13 [7,8,9,10,11,12,13,14,15,16,17,18,6] (by decide +kernel) ?_
 repeat refine ac rfl ?_
 refine aq rfl rfl rfl w1 rfl rfl ?_
 repeat refine ac rfl ?_
 refine aT rfl rfl rfl c1 rfl rfl rfl ?_
 repeat refine ac rfl ?_
 refine cb rfl rfl rfl ?_ ?_<;>intro h
 ·rw [h]
  clear h
  repeat refine ac rfl ?_
  refine aq rfl rfl rfl w2 rfl rfl ?_
  repeat refine ac rfl ?_
  refine aT rfl rfl rfl c2 rfl rfl rfl ?_
  repeat refine ac rfl ?_
  exact bj rfl rfl rfl
 ·rw [h]
  clear h
  repeat refine ac rfl ?_
  exact bj rfl rfl rfl
theorem wK {p : Rat} {n : Int} : tF p (-n) n = false ↔ (p < -(n : Rat) ∨ (n : Rat) < p) := by
 rw [tF,Bool.and_eq_false_iff,decide_eq_false_iff_not,decide_eq_false_iff_not]
 have e : (((-n : Int)) : Rat) = -(n : Rat) := by push_cast;rfl
 rw [e]
 constructor
 ·rintro (h | h)
  ·left;grind
  ·right;grind
 ·rintro (h | h)
  ·left;grind
  ·right;grind
set_option maxRecDepth 20000 in
theorem p_ (l : List SR) (hl : fE l) : Ret Tryz.prog .shared 19 [.sl (l.map eS)] (I (br l)) := by
 have hml : (l.map eS).length = l.length := by simp
 generalize hE : br l = E
 rw [br] at hE
 obtain ⟨hs,hll⟩ := hl
 refine Ret.of_pwp layOk mixed Go.Proofs.Tryz.func19 rfl (by decide) rfl rfl ?_
 repeat refine ac rfl ?_
 refine ae rfl ?_ ?_<;>intro h
 ·have h1 := of_decide_eq_true h
  rw [if_pos (by omega)] at hE
  subst hE
  repeat refine ac rfl ?_
  exact aO rfl rfl rfl
 rw [if_neg (by have := of_decide_eq_false h;omega)] at hE
 clear h
 repeat refine ac rfl ?_
 refine ax (fun i : Nat => i ≤ l.length ∧ bK dL (l.drop i) = E) (fun i => [(0,.sl (l.map eS)),(3,I (i : Nat))]) (fun _ => []) (fun i => l.length - i) 0 ⟨Nat.zero_le _,by rw [List.drop_zero];exact hE⟩ ⟨rfl,rfl,trivial⟩ ?_
 intro i s ⟨hi,hF⟩
 repeat refine ac rfl ?_
 refine ae rfl ?_ ?_<;>intro h
 ·have hlt : i < l.length := by have := of_decide_eq_true h;omega
  clear h
  obtain ⟨x,hx⟩ := aM hlt
  rw [jF dL hx] at hF
  have hxl := hs x (List.mem_of_getElem? hx)
  have hw := lJ x.c (hx := hxl.c.v) (by decide) (-10000000) 10000000 ⟨by decide,by decide⟩ ⟨by decide,by decide⟩
  have hwn := wK (p := x.c.val) (n := 10000000)
  have hcv := qb x.k hxl.k
  have hse : dL x = dL x := rfl
  conv at hse => rhs;rw [dL]
  have hwr : IntKind.i64.wrap (((i : Nat) : Int) + 1) = ((i + 1 : Nat) : Int) := by rw [wrap_i64 (by omega) (by omega)];omega
  generalize dL x = se at *
  generalize bp x.k = ce at *
  generalize tF x.c.val (-10000000) 10000000 = wb at *
  obtain ⟨xx,xc,xk⟩ := x
  simp only at *
  by_cases h1 : xx < -1000000
  ·have h2 : se = 2 := by rw [hse,if_pos (.inl (.inl h1))]
   rw [h2,if_neg (by decide)] at hF
   subst hF
   repeat refine ac rfl ?_
   refine bm rfl rfl rfl rfl rfl rfl rfl hx rfl ?_
   repeat refine ac rfl ?_
   refine cb rfl rfl rfl ?_ ?_<;>intro h
   ·clear h
    repeat refine ac rfl ?_
    exact aO rfl rfl rfl
   ·exact absurd h1 (of_decide_eq_false h)
  by_cases h2 : 1000000 < xx
  ·have h3 : se = 2 := by rw [hse,if_pos (.inl (.inr h2))]
   rw [h3,if_neg (by decide)] at hF
   subst hF
   repeat refine ac rfl ?_
   refine bm rfl rfl rfl rfl rfl rfl rfl hx rfl ?_
   repeat refine ac rfl ?_
   refine cb rfl rfl rfl ?_ ?_<;>intro h
   ·exact absurd (of_decide_eq_true h) h1
   ·clear h
    repeat refine ac rfl ?_
    refine bm rfl rfl rfl rfl rfl rfl rfl hx rfl ?_
    repeat refine ac rfl ?_
    refine cb rfl rfl rfl ?_ ?_<;>intro h
    ·clear h
     repeat refine ac rfl ?_
     exact aO rfl rfl rfl
    ·exact absurd h2 (of_decide_eq_false h)
  cases wb with
  |false =>
   have h3 : se = 2 := by rw [hse,if_pos (.inr (hwn.1 rfl))]
   rw [h3,if_neg (by decide)] at hF
   subst hF
   repeat refine ac rfl ?_
   refine bm rfl rfl rfl rfl rfl rfl rfl hx rfl ?_
   repeat refine ac rfl ?_
   refine cb rfl rfl rfl ?_ ?_<;>intro h
   ·exact absurd (of_decide_eq_true h) h1
   ·clear h
    repeat refine ac rfl ?_
    refine bm rfl rfl rfl rfl rfl rfl rfl hx rfl ?_
    repeat refine ac rfl ?_
    refine cb rfl rfl rfl ?_ ?_<;>intro h
    ·exact absurd (of_decide_eq_true h) h2
    ·clear h
     repeat refine ac rfl ?_
     refine bm rfl rfl rfl rfl rfl rfl rfl hx rfl ?_
     repeat refine ac rfl ?_
     refine aT rfl rfl rfl hw rfl rfl rfl ?_
     repeat refine ac rfl ?_
     exact aO rfl rfl rfl
  |true =>
   have h3 : se = ce := by
    rw [hse,if_neg]
    rintro (h | h)
    ·omega
    ·exact absurd (hwn.2 h) (by decide)
   rw [h3] at hF
   by_cases h0 : ce = 0
   ·rw [if_pos h0] at hF
    subst h0
    repeat refine ac rfl ?_
    refine bm rfl rfl rfl rfl rfl rfl rfl hx rfl ?_
    repeat refine ac rfl ?_
    refine cb rfl rfl rfl ?_ ?_<;>intro h
    ·exact absurd (of_decide_eq_true h) h1
    ·clear h
     repeat refine ac rfl ?_
     refine bm rfl rfl rfl rfl rfl rfl rfl hx rfl ?_
     repeat refine ac rfl ?_
     refine cb rfl rfl rfl ?_ ?_<;>intro h
     ·exact absurd (of_decide_eq_true h) h2
     ·clear h
      repeat refine ac rfl ?_
      refine bm rfl rfl rfl rfl rfl rfl rfl hx rfl ?_
      repeat refine ac rfl ?_
      refine aT rfl rfl rfl hw rfl rfl rfl ?_
      repeat refine ac rfl ?_
      refine bm rfl rfl rfl rfl rfl rfl rfl hx rfl ?_
      repeat refine ac rfl ?_
      refine aT rfl rfl rfl hcv rfl rfl rfl ?_
      repeat refine ac rfl ?_
      exact ⟨i + 1,⟨by omega,hF⟩,by omega,rfl,congrArg I hwr,trivial⟩
   ·rw [if_neg h0] at hF
    subst hF
    repeat refine ac rfl ?_
    refine bm rfl rfl rfl rfl rfl rfl rfl hx rfl ?_
    repeat refine ac rfl ?_
    refine cb rfl rfl rfl ?_ ?_<;>intro h
    ·exact absurd (of_decide_eq_true h) h1
    ·clear h
     repeat refine ac rfl ?_
     refine bm rfl rfl rfl rfl rfl rfl rfl hx rfl ?_
     repeat refine ac rfl ?_
     refine cb rfl rfl rfl ?_ ?_<;>intro h
     ·exact absurd (of_decide_eq_true h) h2
     ·clear h
      repeat refine ac rfl ?_
      refine bm rfl rfl rfl rfl rfl rfl rfl hx rfl ?_
      repeat refine ac rfl ?_
      refine aT rfl rfl rfl hw rfl rfl rfl ?_
      repeat refine ac rfl ?_
      refine bm rfl rfl rfl rfl rfl rfl rfl hx rfl ?_
      repeat refine ac rfl ?_
      refine aT rfl rfl rfl hcv rfl rfl rfl ?_
      repeat refine ac rfl ?_
      refine ae rfl ?_ ?_<;>intro h
      ·repeat refine ac rfl ?_
       exact aO rfl rfl rfl
      ·exfalso
       simp at h
       exact h0 h
 ·have hie : i = l.length := by have := of_decide_eq_false h;omega
  clear h
  rw [hie,List.drop_length] at hF
  simp only [bK] at hF
  subst hF
  repeat refine ac rfl ?_
  exact aO rfl rfl rfl
theorem jk (b : BR) (hb : b.Lim) : Ret Tryz.prog .shared 21 [.agg (eB b)] (I (aH b)) := by
 have hw := lJ b.a (hx := hb.a.v) (by decide) (-1000000) 1000000 ⟨by decide,by decide⟩ ⟨by decide,by decide⟩
 have hwn := wK (p := b.a.val) (n := 1000000)
 have hc := p_ b.l hb.l
 generalize hE : aH b = E
 rw [aH] at hE
 generalize tF b.a.val (-1000000) 1000000 = wb at *
 obtain ⟨w,a,l⟩ := b
 simp only at *
 generalize br l = ce at *
 by_cases h1 : w < 1
 ·rw [if_pos (.inl (.inl h1))] at hE
  subst hE
  refine Ret.of_pwp layOk mixed Go.Proofs.Tryz.func21 rfl (by decide) rfl rfl ?_
  repeat refine ac rfl ?_
  refine cb rfl rfl rfl ?_ ?_<;>intro h
  ·clear h
   repeat refine ac rfl ?_
   exact aO rfl rfl rfl
  ·exact absurd h1 (of_decide_eq_false h)
 by_cases h2 : 1000000000 < w
 ·rw [if_pos (.inl (.inr h2))] at hE
  subst hE
  refine Ret.of_pwp layOk mixed Go.Proofs.Tryz.func21 rfl (by decide) rfl rfl ?_
  repeat refine ac rfl ?_
  refine cb rfl rfl rfl ?_ ?_<;>intro h
  ·exact absurd (of_decide_eq_true h) h1
  ·clear h
   repeat refine ac rfl ?_
   refine cb rfl rfl rfl ?_ ?_<;>intro h
   ·clear h
    repeat refine ac rfl ?_
    exact aO rfl rfl rfl
   ·exact absurd h2 (of_decide_eq_false h)
 cases wb with
 |false =>
  rw [if_pos (.inr (hwn.1 rfl))] at hE
  subst hE
  refine Ret.of_pwp layOk mixed Go.Proofs.Tryz.func21 rfl (by decide) rfl rfl ?_
  repeat refine ac rfl ?_
  refine cb rfl rfl rfl ?_ ?_<;>intro h
  ·exact absurd (of_decide_eq_true h) h1
  ·clear h
   repeat refine ac rfl ?_
   refine cb rfl rfl rfl ?_ ?_<;>intro h
   ·exact absurd (of_decide_eq_true h) h2
   ·clear h
    repeat refine ac rfl ?_
    refine aT rfl rfl rfl hw rfl rfl rfl ?_
    repeat refine ac rfl ?_
    exact aO rfl rfl rfl
 |true =>
  rw [if_neg (by
   rintro (h | h)
   ·omega
   ·exact absurd (hwn.2 h) (by decide))] at hE
  subst hE
  refine Ret.of_pwp layOk mixed Go.Proofs.Tryz.func21 rfl (by decide) rfl rfl ?_
  repeat refine ac rfl ?_
  refine cb rfl rfl rfl ?_ ?_<;>intro h
  ·exact absurd (of_decide_eq_true h) h1
  ·clear h
   repeat refine ac rfl ?_
   refine cb rfl rfl rfl ?_ ?_<;>intro h
   ·exact absurd (of_decide_eq_true h) h2
   ·clear h
    repeat refine ac rfl ?_
    refine aT rfl rfl rfl hw rfl rfl rfl ?_
    repeat refine ac rfl ?_
    refine aT rfl rfl rfl hc rfl rfl rfl ?_
    repeat refine ac rfl ?_
    exact aO rfl rfl rfl
open Go.Proofs Go.RowKit
theorem Ghost.takeD {s : St} {k g t n sz : Nat} {T : TypeId} {rows : List (List PV)} (ho : s.own k = (g,some ⟨T,sz,rows,1⟩)) (hr : s.reg t = .als k g 0 n) (hn : n = rows.length) :
  Ghost s ((s.setOwn k (g + 1) none).putR t (.sl rows)) := by
 intro C a w hX ⟨γ,h⟩
 subst hn
 obtain ⟨h1,hle,_⟩ := h.drop hX ho
 refine ⟨γ,h1.defers,h1.size,fun r => ?_,h1.sites,h1.inj,h1.base,h1.below,h1.top,h1.kept⟩
 show Rep _ (bif Nat.beq r t then _ else (s.setOwn k (g + 1) none).reg r) _
 by_cases hrt : r = t
 ·subst hrt
  have hp := h.regs r
  rw [hr] at hp
  simp only [Nat.beq_refl,cond_true]
  refine .d ?_
  rcases h.als_at hp ho with ⟨q1,_,q3,q4⟩ | ⟨b,cap,cur,q1,q2,q3,q4,q5,q6,q7⟩
  ·have : rows = [] := (h.sites k _ (by rw [ho])).emp q1
   rw [this,q4]
   exact .sl0 _ _
  ·obtain ⟨cur',g1,g2,g3,g4,g5⟩ := h.site_at ho q1 (h.cells_sz ho q1 q3 q6)
   have hb : (ah C γ (s.setOwn k (g + 1) none) w).ok b := by
    have hbase := h.base k _ b (by rw [ho]) q1
    refine ⟨hbase.2,fun hx => ?_,fun k' c' hc' hb' => ?_⟩
    ·have := hX b hx;omega
    ·by_cases hk' : k' = k
     ·subst hk';rw [ag] at hc';cases hc'
     ·rw [ar hk'] at hc'
      exact hk' (h.inj k' k c' _ b hc' (by rw [ho]) hb' q1)
   rw [q2]
   simp only [Nat.zero_mul]
   refine .sl rows b 0 cap sz (fun i j => cur'.getD (i * sz + j) undef) hb g2 q4 g4 (fun i j row pv e1 e2 => ?_) (fun i j row pv e1 e2 => ?_)
   ·obtain ⟨u,f1,f2,_⟩ := g5 i j row pv e1 e2
    have g1 : w.heap[b]? = some (.cells cur' T (0,0)) := g1
    show w.cell? _ = _ ∧ _
    rw [aI g1,Nat.zero_add,f1]
    simp [f1,f2]
   ·obtain ⟨u,f1,_,f3⟩ := g5 i j row pv e1 e2
    have hu : cur'.getD (i * sz + j) undef = u := by simp [f1]
    simp only [hu]
    exact hle.drep f3
 ·rw [aU hrt];exact h1.regs r
def qG (l : List Int) : List RR := l.map fun z : Int => ofQ (z : Rat)
set_option maxRecDepth 20000 in
theorem m0 (l : List Int) (hl : l.length ≤ 1000000) (hz : ∀ z ∈ l,i64 z) : Ret Tryz.prog .shared 74 [.sl (l.map eN)] (.sl ((qG l).map eR)) := by
 have hml : (l.map eN).length = l.length := by simp
 refine Ret.of_pwp layOk mixed Go.Proofs.Tryz.func74 rfl (by decide) rfl rfl ?_
 ((repeat (first | refine aR ?_ | refine bV ?_ | refine bR ?_ | refine bQ ?_));refine aY ?_)
 refine gy rfl trivial ?_
 ((repeat (first | refine aR ?_ | refine bV ?_ | refine bR ?_ | refine bQ ?_));refine aY ?_)
 (first | refine ay (eE 26 4 1 rfl rfl ?_) | refine ay (ez 26 4 1 rfl rfl ?_))
 repeat refine ac rfl ?_
 refine ax (fun k => k ≤ l.length) (fun k => [(0,.sl (l.map eN)),(3,.als 3 (k + 1) 0 ((qG (l.take k)).map eR).length),(4,I (k : Nat))]) (fun k => [(3,k + 1,⟨26,4,(qG (l.take k)).map eR,1⟩)]) (fun k => l.length - k) 0 (Nat.zero_le _) ⟨rfl,rfl,rfl,rfl,trivial⟩ ?_
 intro k s hk
 repeat refine ac rfl ?_
 refine ae rfl ?_ ?_<;>intro h
 ·have hlt : k < l.length := by have := of_decide_eq_true h;omega
  clear h
  obtain ⟨x,hx⟩ := aM hlt
  have hxr := dB x (hz x (List.mem_of_getElem? hx))
  have hw := f7 k
  have hwl : (qG (l.take k)).length = k := by rw [qG,List.length_map,List.length_take];omega
  have hrows : (qG (l.take (k + 1))).map eR = (qG (l.take k)).map eR ++ [eR (ofQ (x : Rat))] := by rw [cM hx,qG,List.map_append,List.map_append];rfl
  repeat refine ac rfl ?_
  refine bm rfl rfl rfl rfl rfl rfl rfl hx rfl ?_
  repeat refine ac rfl ?_
  refine aq rfl rfl rfl hxr rfl rfl ?_
  repeat refine ac rfl ?_
  refine ay (bb 1 rfl rfl rfl rfl rfl rfl rfl rfl rfl rfl rfl (by repeat' constructor) rfl ?_)
  repeat refine ac rfl ?_
  refine ay (bC 1 rfl rfl rfl rfl rfl rfl rfl rfl rfl rfl rfl (by repeat' constructor) (by intro row hr;first | (simp at hr;subst hr;rfl) | simp at hr) rfl rfl (by simp;omega) (by simp;omega) ?_)
  repeat refine ac rfl ?_
  refine ⟨k + 1,hlt,by omega,rfl,?_,congrArg I hw,?_,trivial⟩
  ·rw [hrows];rfl
  ·rw [hrows];rfl
 ·have hge : k = l.length := by have := of_decide_eq_false h;omega
  subst hge
  clear h
  rw [List.take_length]
  repeat refine ac rfl ?_
  exact eM rfl rfl rfl ⟨rfl,rfl,rfl⟩ rfl
theorem pp (x : Int) : WeakL ([I x] ++ zN ++ [.sl [[I 0]],.sl ((qG [2]).map eR)]) (eS (db x)) := WeakL.append (WeakL.append (WeakL.refl _) gr) (WeakL.refl _)
theorem vh (x : Int) : WeakL ([I x] ++ zN ++ [.sl [[I 0],[I 10]],.sl ((qG [5,0]).map eR)]) (eS (iq x)) := WeakL.append (WeakL.append (WeakL.refl _) gr) (WeakL.refl _)
theorem nq : ∀ z ∈ [(0 : Int),1,2,5,10,25,30,40,75,80,100],i64 z := by
 intro z hz
 simp at hz
 rcases hz with rfl | rfl | rfl | rfl | rfl | rfl | rfl | rfl | rfl | rfl | rfl <;> exact ⟨by decide,by decide⟩
theorem lz (x : Int) : Ret Tryz.prog .shared 72 [I x] (.agg (eS (db x))) := by
 have h1 := m0 [2] (by simp) (fun z hz => nq z (by simp at hz;subst hz;simp))
 refine Ret.weak (r' := .agg ([I x] ++ zN ++ [.sl [[I 0]],.sl ((qG [2]).map eR)])) ?_ (WeakL.refl _) (pp x).agg
 generalize (qG [2]).map eR = W at *
 refine Ret.of_pwp layOk mixed Go.Proofs.Tryz.func72 rfl (by decide) rfl rfl ?_
 repeat refine ac rfl ?_
 refine ay (bb 0 rfl rfl rfl rfl rfl rfl rfl rfl rfl rfl rfl (by repeat' constructor) rfl ?_)
 repeat refine ac rfl ?_
 refine bx rfl rfl (da rfl rfl rfl rfl rfl rfl rfl rfl rfl rfl (by repeat' constructor) rfl) ?_
 repeat refine ac rfl ?_
 refine aq rfl rfl rfl h1 rfl rfl ?_
 repeat refine ac rfl ?_
 exact aF rfl rfl rfl
theorem ri (x : Int) : Ret Tryz.prog .shared 73 [I x] (.agg (eS (iq x))) := by
 have h1 := m0 [5,0] (by simp) (fun z hz => nq z (by simp at hz;rcases hz with rfl | rfl <;> simp))
 refine Ret.weak (r' := .agg ([I x] ++ zN ++ [.sl [[I 0],[I 10]],.sl ((qG [5,0]).map eR)])) ?_ (WeakL.refl _) (vh x).agg
 generalize (qG [5,0]).map eR = W at *
 refine Ret.of_pwp layOk mixed Go.Proofs.Tryz.func73 rfl (by decide) rfl rfl ?_
 repeat refine ac rfl ?_
 refine ay (bb 0 rfl rfl rfl rfl rfl rfl rfl rfl rfl rfl rfl (by repeat' constructor) rfl ?_)
 repeat refine ac rfl ?_
 refine bx rfl rfl (da rfl rfl rfl rfl rfl rfl rfl rfl rfl rfl (by repeat' constructor) rfl) ?_
 repeat refine ac rfl ?_
 refine aq rfl rfl rfl h1 rfl rfl ?_
 repeat refine ac rfl ?_
 exact aF rfl rfl rfl
theorem Az : ofQ (-1 / 10) = ⟨bz (-1),bz 10⟩ := by
 rw [j1]
 have h1 : (-1 / 10 : Rat).num = -1 := by decide +kernel
 have h2 : (-1 / 10 : Rat).den = 10 := by decide +kernel
 rw [h1,h2];rfl
set_option maxRecDepth 20000 in
theorem y8 : Ret Tryz.prog .shared 75 [I (-1),I 10] (.agg (eR (ofQ (-1 / 10)))) := by
 have h1 := m7 (-1) ⟨by decide,by decide⟩
 have h2 := m7 10 ⟨by decide,by decide⟩
 rw [Az]
 generalize bz (-1) = X at *
 generalize bz 10 = Y at *
 refine Ret.of_pwp layOk mixed Go.Proofs.Tryz.func75 rfl (by decide) rfl rfl ?_
 repeat refine ac rfl ?_
 refine ax (fun q : Nat × Nat => q.1 ≤ 10 ∧ q.2 ≤ 10 ∧ Nat.gcd q.1 q.2 = 1) (fun q => [(0,I (-1)),(1,I 10),(4,.ptr 4 1 0 0),(5,I (q.1 : Nat)),(6,I (q.2 : Nat))]) (fun _ => [(4,1,⟨26,4,[zN],2⟩)]) (fun q => q.2) (1,10) ⟨by decide,by decide,by decide⟩ ⟨rfl,rfl,rfl,rfl,rfl,rfl,trivial⟩ ?_
 rintro ⟨x,y⟩ s ⟨hx,hy,hg⟩
 simp only at hx hy hg
 dsimp only
 repeat refine ac rfl ?_
 refine ae rfl ?_ ?_<;>intro h
 ·have hy0 : 0 < y := by have := of_decide_eq_true h;omega
  clear h
  have hm := Nat.mod_lt x hy0
  repeat refine ac rfl ?_
  refine bM [] [] (by decide +kernel) ?_
  repeat refine ac rfl ?_
  refine bx rfl rfl (QOp.v rfl (show ¬ ((y : Nat) : Int) = 0 by omega)) ?_
  rw [iY]
  repeat refine ac rfl ?_
  exact ⟨(y,x % y),⟨hy,by simp only;omega,by simp only;rw [Nat.gcd_comm,← Nat.gcd_rec,Nat.gcd_comm];exact hg⟩,hm,rfl,rfl,rfl,rfl,rfl,rfl,trivial⟩
 ·have hy0 : y = 0 := by have := of_decide_eq_false h;omega
  subst hy0
  clear h
  rw [Nat.gcd_zero_right] at hg
  subst hg
  repeat refine ac rfl ?_
  refine am 9 [25,26,27,28,29,30,31,32,33] (by decide +kernel) ?_
  repeat refine ac rfl ?_
  have q1 : IntKind.i64.wrap (Int.tdiv (-1) ((1 : Nat) : Int)) = -1 := by decide
  have q2 : IntKind.i64.wrap (Int.tdiv 10 ((1 : Nat) : Int)) = 10 := by decide
  refine bx rfl rfl (QOp.v rfl (show ¬ ((1 : Nat) : Int) = 0 by decide)) ?_
  rw [q1]
  repeat refine ac rfl ?_
  refine aq rfl rfl rfl h1 rfl rfl ?_
  repeat refine ac rfl ?_
  refine bx rfl rfl (QOp.v rfl (show ¬ ((1 : Nat) : Int) = 0 by decide)) ?_
  rw [q2]
  repeat refine ac rfl ?_
  refine aq rfl rfl rfl h2 rfl rfl ?_
  repeat refine ac rfl ?_
  exact aF rfl rfl rfl
theorem mZ (z t : Rat) : (bd b1).F z t = (0 + if z + t * 0 < 0 then 0 else 2 * (z + t * 0)) + if z + t * 100 < 0 then 0 else 2 * (z + t * 100) := by
 have e : (bd b1).F z t = (0 + fQ (db 0) z t) + fQ (db 100) z t := rfl
 rw [e,po,po,show ((0 : Int) : Rat) = 0 from rfl,show ((100 : Int) : Rat) = 100 from rfl]
theorem y3 (z t : Rat) : (bd b1).G z t = (if z + t * 100 < 0 then 0 else 2 * (z + t * 100)) * 100 := by
 have e : (bd b1).G z t = (0 + fQ (db 0) z t * ((0 : Int) : Rat)) + fQ (db 100) z t * ((100 : Int) : Rat) := rfl
 rw [e,po,po,show ((0 : Int) : Rat) = 0 from rfl,show ((100 : Int) : Rat) = 100 from rfl]
 grind
theorem tY : (bd b1).w = 40 := rfl
theorem yZ : (bd b1).A = 25 := by
 show (ofQ ((25 : Int) : Rat)).val = 25
 rw [ofQ_val];rfl
theorem y2 {z t : Rat} (h : (bd b1).Least z t) : (bd b1).E t = (if z + t * 100 < 0 then 0 else 2 * (z + t * 100)) * 100 - 40 * 25 := by
 rw [Bd.E,Bd.sg_eq h,Bd.e,y3,tY,yZ]
theorem km {z t : Rat} (h1 : (bd b1).F z t = 40) (h2 : ∀ z',z' < z → (bd b1).F z' t < 40) : (bd b1).Least z t := ⟨h1,h2⟩
theorem yy : (bd b1).Least 10 0 := km (by rw [mZ];grind) (fun z' h => by rw [mZ];grind)
theorem Ac : (bd b1).Least 20 (-1) := km (by rw [mZ];grind) (fun z' h => by rw [mZ];grind)
theorem Ad : (bd b1).Least (-80) 1 := km (by rw [mZ];grind) (fun z' h => by rw [mZ];grind)
theorem ko {x : Int} {z t : Rat} (h : 0 ≤ z + t * (x : Rat)) : jL (db x).k.s (yQ (db x) z t) 1 = 1 := by
 rw [jL,if_pos]
 show ((0 : Int) : Rat) ≤ RR.zero.val + (z + t * (x : Rat))
 rw [RR.zero_val,show ((0 : Int) : Rat) = 0 from rfl]
 grind
theorem r8 {x : Int} {z t : Rat} (h : 0 < z + t * (x : Rat)) : nZ (db x).k.s (yQ (db x) z t) 1 = 1 := by
 rw [nZ,if_pos]
 show ((0 : Int) : Rat) < RR.zero.val + (z + t * (x : Rat))
 rw [RR.zero_val,show ((0 : Int) : Rat) = 0 from rfl]
 grind
theorem rJ (x : Int) : bg (db x).k.m 1 = 2 := by
 rw [bg]
 show (ofQ ((2 : Int) : Rat)).val = 2
 rw [ofQ_val];rfl
theorem r7 {i : Nat} (hi : i < 2) : (bd b1).k ((bd b1).pR 10 0) i = 2 := by
 rcases i with _ | _ | i
 ·show bg (db 0).k.m (jL (db 0).k.s (yQ (db 0) 10 0) 1) = 2
  rw [ko (by grind),rJ]
 ·show bg (db 100).k.m (jL (db 100).k.s (yQ (db 100) 10 0) 1) = 2
  rw [ko (by grind),rJ]
 ·omega
theorem tW : (bd b1).guess 10 0 = some (15,-1 / 10) := by
 have kh : (bd b1).Kh ((bd b1).pR 10 0) = 4 := by
  show 0 + (bd b1).k ((bd b1).pR 10 0) 0 + (bd b1).k ((bd b1).pR 10 0) 1 = 4
  rw [r7 (by decide),r7 (by decide)];grind
 have kc : (bd b1).Kc ((bd b1).pR 10 0) = 200 := by
  show 0 + (bd b1).k ((bd b1).pR 10 0) 0 * ((0 : Int) : Rat) + (bd b1).k ((bd b1).pR 10 0) 1 * ((100 : Int) : Rat) = 200
  rw [r7 (by decide),r7 (by decide),show ((0 : Int) : Rat) = 0 from rfl,show ((100 : Int) : Rat) = 100 from rfl];grind
 have kp : (bd b1).Kp ((bd b1).pR 10 0) = 20000 := by
  show 0 + (bd b1).k ((bd b1).pR 10 0) 0 * ((0 : Int) : Rat) * ((0 : Int) : Rat) + (bd b1).k ((bd b1).pR 10 0) 1 * ((100 : Int) : Rat) * ((100 : Int) : Rat) = 20000
  rw [r7 (by decide),r7 (by decide),show ((0 : Int) : Rat) = 0 from rfl,show ((100 : Int) : Rat) = 100 from rfl];grind
 have hF : (bd b1).w - (bd b1).F 10 0 = 0 := by rw [tY,mZ];grind
 have hE : -((bd b1).e 10 0) = -1000 := by rw [Bd.e,y3,tY,yZ];grind
 have hn : Bd.newt 4 200 20000 0 (-1000) = some (5,-1 / 10) := by
  rw [Bd.newt,if_neg (by decide +kernel)]
  congr 2 <;> decide +kernel
 have hb : (bd b1).F (10 + 5) (0 + -1 / 10) = (bd b1).w ∧ (bd b1).G (10 + 5) (0 + -1 / 10) = (bd b1).w * (bd b1).A := by
  rw [mZ,y3,tY,yZ]
  constructor <;> grind
 rw [Bd.guess,Bd.tryP,kh,kc,kp,hF,hE,hn]
 dsimp only
 rw [if_pos hb]
 simp only [Option.some.injEq,Prod.mk.injEq]
 constructor <;> grind
theorem Aa : (bd b1).eqQ 1 = some (15,-1 / 10) := by
 have em : (bd b1).E (-1) = -1000 := by rw [y2 Ac];grind
 have ep : (bd b1).E 1 = 3000 := by rw [y2 Ad];grind
 have e0 : (bd b1).E 0 = 1000 := by rw [y2 yy];grind
 have d1 : (bd b1).dbl (-1) 1 1 = some 1 := by
  rw [Bd.dbl,if_neg]
  rw [show (-1 : Rat) * 1 = -1 by grind,em];grind
 have d2 : (bd b1).dbl 1 1 1 = some 1 := by
  rw [Bd.dbl,if_neg]
  rw [show (1 : Rat) * 1 = 1 by grind,ep];grind
 have a0 : (bd b1).at1 0 = some (15,-1 / 10) := by
  rw [Bd.at1,if_neg (by rw [e0];grind),Bd.sg_eq yy,tW]
 rw [Bd.eqQ,d1,d2]
 dsimp only
 rw [Bd.fst3,a0]
theorem Ab (t : Rat) : ∃ z,(bd b1).w ≤ (bd b1).F z t := ⟨20,by rw [mZ,tY];grind⟩
theorem jA (t : Rat) : (kr b1.l t).length ≤ 19 := by
 rw [kr]
 show ((jV t (db 0)) ++ ((jV t (db 100)) ++ [])).length ≤ 19
 rw [jV,jV]
 simp [db]
theorem r9 : bw b1.l = [0,100] := by
 rw [bw]
 have : b9 (b1.l.map (·.x)) = [0,100] := List.mergeSort_of_pairwise (by decide)
 rw [this]
 decide
theorem tX {x : Int} {A B : Rat} (hx : x = 0 ∨ x = 100) (h : A + B * (x : Rat) ≠ 0) : rc 15 (-1 / 10) A B (db x) = false := by
 have hy : 0 < (15 : Rat) + -1 / 10 * (x : Rat) := by
  rcases hx with rfl | rfl
  ·rw [show ((0 : Int) : Rat) = 0 from rfl];grind
  ·rw [show ((100 : Int) : Rat) = 100 from rfl];grind
 have hr : rV (db x) 15 (-1 / 10) = 2 := by
  show bg (db x).k.m (jL (db x).k.s (yQ (db x) 15 (-1 / 10)) 1) = 2
  rw [ko (by grind),rJ]
 have hl : lV (db x) 15 (-1 / 10) = 2 := by
  show bg (db x).k.m (nZ (db x).k.s (yQ (db x) 15 (-1 / 10)) 1) = 2
  rw [r8 hy,rJ]
 rw [rc,decide_eq_false]
 intro hn
 apply hn
 rw [hr,hl]
 rcases Classical.em (0 < A + B * (x : Rat)) with g | g
 ·exact .inl ⟨g,by grind⟩
 ·exact .inr ⟨by show A + B * (x : Rat) < 0;grind,by grind⟩
theorem wX {A B : Rat} (h : A ≠ 0 ∨ A + B * 100 ≠ 0) : gC b1.l 15 (-1 / 10) A B = false := by
 show (rc 15 (-1 / 10) A B (db 0) && (rc 15 (-1 / 10) A B (db 100) && true)) = false
 rcases h with h | h
 ·rw [tX (.inl rfl) (by rw [show ((0 : Int) : Rat) = 0 from rfl];grind),Bool.false_and]
 ·rw [tX (x := 100) (.inr rfl) (by rw [show ((100 : Int) : Rat) = 100 from rfl];exact h),Bool.false_and,Bool.and_false]
theorem r_ : je b1 15 (-1 / 10) = false := by
 rw [je,List.any_eq_false]
 intro d hd
 have key : ∀ A B : Int,(A ≠ 0 ∨ A + B * 100 ≠ 0) → ¬ gC b1.l 15 (-1 / 10) (ofQ (A : Rat)).val (ofQ (B : Rat)).val = true := by
  intro A B h
  rw [ofQ_val,ofQ_val,wX]
  ·decide
  ·rcases h with h | h
   ·left;exact_mod_cast h
   ·right
    have : (A : Rat) + (B : Rat) * 100 = ((A + B * 100 : Int) : Rat) := by push_cast;rfl
    rw [this];exact_mod_cast h
 rw [fN,cG,r9] at hd
 simp at hd
 rcases hd with rfl | rfl | rfl | rfl | rfl | rfl
 ·exact key (-0) 1 (by decide)
 ·exact key (-100) 1 (by decide)
 ·exact key 0 (-1) (by decide)
 ·exact key 100 (-1) (by decide)
 ·exact key 1 0 (by decide)
 ·exact key (-1) 0 (by decide)
theorem y5 : Ret Tryz.prog .shared 41 [.agg (eB b1)] (.tup [.agg (zg ⟨ofQ 15,ofQ (-1 / 10)⟩ [ofQ 30,ofQ 10]),.agg (zN ++ zN),I 0]) := by
 have hn := sb kn (y4.2 ⟨rfl,rfl⟩)
 have h93 := jM b1 kn
 rw [eV,if_neg (by rw [hn.1];decide),List.find?_eq_none.2 (fun r hr => by rw [hn.2 r hr];decide)] at h93
 have h120 := sv b1 kn (fun t => Nat.le_trans (jA t) (by decide)) (fun t => yb _ (jA t)) Ab (N := 1) (by decide) Aa
 have va : Va ⟨ofQ 15,ofQ (-1 / 10)⟩ 15 (-1 / 10) 4 8 := ⟨Vq.ofQ (h := ⟨uJ 15 ⟨by decide,by decide⟩⟩),Vq.ofQ (h := @HQ.div _ _ 4 4 (@HQ.neg _ _ HQ.one) ⟨uJ 10 ⟨by decide,by decide⟩⟩)⟩
 have h121 := sP b1 kn ⟨ofQ 15,ofQ (-1 / 10)⟩ (ha := va) (by decide)
 rw [r_] at h121
 have h23 := kH b1.l kn.lim.l kn.chkL ⟨ofQ 15,ofQ (-1 / 10)⟩ (ha := va) (by decide)
 rw [r6] at h23
 exact tv b1 kn.lim tV h93 _ _ h120 h121 h23
theorem y7 : Ret Tryz.prog .shared 41 [.agg (eB b2)] (.tup [.agg zS,.agg (eA (jS 0)),I 13]) := by
 have h93 := jM b2 yz
 rw [pH] at h93
 exact qy b2 yz.lim tZ _ 13 (by decide) h93
set_option maxRecDepth 20000 in
theorem r5 : Ret Tryz.prog .shared 15 [] (.bool true) := by
 have w25 := dB 25 ⟨by decide,by decide⟩
 have w75 := dB 75 ⟨by decide,by decide⟩
 have w0 := dB 0 ⟨by decide,by decide⟩
 have w1 := dB 1 ⟨by decide,by decide⟩
 have s0 := lz 0
 have s1 := lz 100
 have p0 := ri 0
 have p1 := ri 100
 have hs := y5
 have hp := y7
 have hws := m0 [30,10] (by simp) (fun z hz => nq z (by simp at hz;rcases hz with rfl | rfl <;> simp))
 have hq := y8
 have e1 := qk [ofQ 30,ofQ 10] (by simp) (fun x hx => by
  simp at hx
  rcases hx with rfl | rfl
  ·have := (vI (z := 30) ⟨by decide,by decide⟩).sz
   exact ⟨Nat.le_trans this.1 (by decide),Nat.le_trans this.2 (by decide)⟩
  ·have := (vI (z := 10) ⟨by decide,by decide⟩).sz
   exact ⟨Nat.le_trans this.1 (by decide),Nat.le_trans this.2 (by decide)⟩)
 have e2 := lp (p := -1 / 10) (n := 8) (@HQ.div _ _ 4 4 (@HQ.neg _ _ HQ.one) ⟨uJ 10 ⟨by decide,by decide⟩⟩) (by decide)
 have e3 := lp (p := ((0 : Int) : Rat)) ⟨uJ 0 ⟨by decide,by decide⟩⟩ (by decide)
 have e4 := lp (p := ((1 : Int) : Rat)) ⟨uJ 1 ⟨by decide,by decide⟩⟩ (by decide)
 have hb1 : eB b1 = I 40 :: (eR (ofQ ((25 : Int) : Rat)) ++ [.sl [eS (db 0),eS (db 100)]]) := rfl
 have hb2 : eB b2 = I 80 :: (eR (ofQ ((75 : Int) : Rat)) ++ [.sl [eS (iq 0),eS (iq 100)]]) := rfl
 rw [hb1] at hs
 rw [hb2] at hp
 rw [show qG [30,10] = [ofQ 30,ofQ 10] from rfl] at hws
 rw [show jS 0 = ⟨ofQ ((0 : Int) : Rat),ofQ ((1 : Int) : Rat)⟩ from rfl] at hp
 have hzA : eA zA = eR RR.zero ++ eR RR.zero := rfl
 clear hb1 hb2
 generalize ofQ ((25 : Int) : Rat) = W25 at *
 generalize ofQ ((75 : Int) : Rat) = W75 at *
 generalize ofQ ((0 : Int) : Rat) = W0 at *
 generalize ofQ ((1 : Int) : Rat) = W1 at *
 generalize ofQ (-1 / 10 : Rat) = WT at *
 generalize ofQ (15 : Rat) = W15 at *
 generalize [ofQ (30 : Rat),ofQ (10 : Rat)] = WF at *
 refine Ret.of_pwp layOk mixed Go.Proofs.Tryz.func15 rfl (by decide) rfl rfl ?_
 ((repeat ((fail_if_success (with_reducible refine aP 1 ?_));refine cF rfl ?_));refine aE 4 ?_)
 refine aq rfl rfl rfl w25 rfl rfl ?_
 refine aq rfl rfl rfl s0 rfl rfl ?_
 refine aq rfl rfl rfl s1 rfl rfl ?_
 refine ay (bb 1 rfl rfl rfl rfl rfl rfl rfl rfl rfl rfl rfl (by repeat' constructor) rfl ?_)
 refine aR ?_
 refine aV rfl (cy (Ghost.takeD (k := 11) (t := 11) rfl rfl rfl) (xJ rfl ⟨trivial,trivial,trivial⟩ ?_))
 refine aJ ?_
 refine aq rfl rfl rfl hs rfl rfl ?_
 ((repeat ((fail_if_success (with_reducible refine aP 2 ?_));refine cF rfl ?_));refine aE 4 ?_)
 refine aq rfl rfl rfl w75 rfl rfl ?_
 refine aq rfl rfl rfl p0 rfl rfl ?_
 refine aq rfl rfl rfl p1 rfl rfl ?_
 refine ay (bb 1 rfl rfl rfl rfl rfl rfl rfl rfl rfl rfl rfl (by repeat' constructor) rfl ?_)
 refine aR ?_
 refine aV rfl (cy (Ghost.takeD (k := 21) (t := 21) rfl rfl rfl) (xJ rfl ⟨trivial,trivial,trivial⟩ ?_))
 refine aJ ?_
 refine aq rfl rfl rfl hp rfl rfl ?_
 repeat refine ac rfl ?_
 refine am 32 [27,28,29,30,31,32,33,34,35,36,37,38,39,40,41,42,43,44,45,46,47,48,49,50,51,52,53,54,55,56,57,58] (by decide +kernel) ?_
 repeat refine ac rfl ?_
 refine bx rfl rfl (da rfl rfl rfl rfl rfl rfl rfl rfl rfl rfl (by repeat' constructor) rfl) ?_
 repeat refine ac rfl ?_
 refine aq rfl rfl rfl hws rfl rfl ?_
 repeat refine ac rfl ?_
 refine aT rfl rfl rfl e1 rfl rfl rfl ?_
 repeat refine ac rfl ?_
 refine aq rfl rfl rfl hq rfl rfl ?_
 repeat refine ac rfl ?_
 refine aT rfl rfl rfl e2 rfl rfl rfl ?_
 repeat refine ac rfl ?_
 refine aq rfl rfl rfl w0 rfl rfl ?_
 repeat refine ac rfl ?_
 refine aT rfl rfl rfl e3 rfl rfl rfl ?_
 repeat refine ac rfl ?_
 refine aq rfl rfl rfl w1 rfl rfl ?_
 repeat refine ac rfl ?_
 refine aT rfl rfl rfl e4 rfl rfl rfl ?_
 repeat refine ac rfl ?_
 exact bj rfl rfl rfl
end Go.Pv
namespace Go.Pv
open Go.RowKit Go.ChangeShapes Go.WideShapes Go.ChangeAt
section
variable {H : Type} {enc : TypeId × Value → H} {P : Program} {L : Lay} {w : World} {sp : Nat → Bool} {held : Bool}
def argW (L : Lay) (T : TypeId) (c : PV) : Prop := match L T with
 |some r => bif r.sh.agg then ∃ cs,c = .agg cs ∧ iZ L 12 T cs else iZ L 12 T [c]
 |none => False
theorem tU (hL : eG P L) {base : Nat} {T : TypeId} {v : Value} {d : DataW H} {ps : List MemPlace} (hp : dX L 12 T = true) (h : DataW.Trod enc P w 0 sp held T v d ps) (hok : Value.okWide P w .any base T v) : ∃ c,DRep w (fun b => b < w.heap.size) c v ∧ argW L T c := by
 obtain ⟨fuel,h⟩ := h
 obtain ⟨pvs,h1,h2⟩ := lE hL 12 T _ fuel _ hp h
 have hp' := hp
 simp only [dX] at hp
 split at hp
 ·rename_i r hr
  have hfit := hL T r hr
  have leaf : r.sh.agg = false → (∃ c,pvs = [c]) → (v.cells.toList.length = 1 → v.cells = #[v]) → ∃ c,DRep w (fun b => b < w.heap.size) c v ∧ argW L T c := by
   rintro ha ⟨c,rfl⟩ hv
   have hc := hv (by rw [← h1.1];rfl)
   have hd := h1.2 0 c v rfl (by rw [hc];rfl)
   refine ⟨c,hd.1,?_⟩
   unfold argW
   rw [hr]
   simp only [ha,cond_false]
   exact h2
  have nagg : (∀ cs,v ≠ .agg cs) → v.cells = #[v] := by
   intro h
   cases v <;> first | rfl | exact absurd rfl (h _)
  have hty : ∃ r',L T = some r' ∧ _ := h2
  obtain ⟨r',hr',hty⟩ := hty
  rw [hr] at hr'
  have hr' := Option.some.inj hr'
  subst hr'
  split at hp
  ·rename_i hs
   rw [hs] at hty
   obtain ⟨b,rfl⟩ := hty
   obtain ⟨b',rfl⟩ : ∃ b',v = .bool b' := by
    have := okWide_bool (lG hfit hs) hok;exact this
   exact leaf (by rw [hs];rfl) ⟨_,rfl⟩ (fun _ => rfl)
  ·rename_i k hs
   rw [hs] at hty
   obtain ⟨m,rfl,_⟩ := hty
   obtain ⟨m',rfl⟩ := okWide_int (i4 hfit hs) hok
   exact leaf (by rw [hs];rfl) ⟨_,rfl⟩ (fun _ => rfl)
  ·rename_i hs
   rw [hs] at hty
   obtain ⟨s,rfl,_⟩ := hty
   obtain ⟨s',rfl⟩ := okWide_string (gp hfit hs) hok
   exact leaf (by rw [hs];rfl) ⟨_,rfl⟩ (fun _ => rfl)
  ·rename_i e hs
   rw [hs] at hty
   obtain ⟨rows,rfl,_⟩ := hty
   obtain ⟨a,l,c,rfl⟩ := okWide_slice (ef hfit hs) hok
   exact leaf (by rw [hs];rfl) ⟨_,rfl⟩ (fun _ => rfl)
  ·rename_i fs hs
   obtain ⟨fs',hu,_⟩ := lH hfit hs
   obtain ⟨cs,rfl,_⟩ := okWide_struct hu hok
   refine ⟨.agg pvs,?_,?_⟩
   ·have := DRep.agg (w := w) (ok := fun b => b < w.heap.size) pvs cs.toList h1.1 (fun i c v e1 e2 => (h1.2 i c v e1 e2).1)
    simpa using this
   ·unfold argW
    rw [hr]
    simp only [hs,Sh.agg,cond_true]
    exact ⟨pvs,rfl,h2⟩
  ·cases hp
 ·cases hp
theorem lY (hL : eG P L) {base : Nat} : ∀ (ts : List TypeId) (vs : List Value) (ds : List (DataW H)) (ps : List MemPlace),ts.all (dX L 12) = true → DataW.TrodAll enc P w 0 sp held ts vs ds ps →
  (∀ (j : Nat) t v,ts[j]? = some t → vs[j]? = some v → Value.okWide P w .any base t v) →
  ∃ pargs : List PV,pargs.length = vs.length ∧ ts.length = vs.length ∧ ds.length = vs.length ∧ (∀ (i : Nat) (c : PV) (v : Value),pargs[i]? = some c → vs[i]? = some v → DRep w (fun b => b < w.heap.size) c v) ∧ ∀ (i : Nat) t c,ts[i]? = some t → pargs[i]? = some c → argW L t c
 |[],vs,ds,ps,_,h,_ => by
  obtain ⟨rfl,rfl,_⟩ := trodAll_nil h
  exact ⟨[],rfl,rfl,rfl,fun i c v e => by simp at e,fun i t c e => by simp at e⟩
 |t :: ts,vs,ds,ps,hp,h,hok => by
  obtain ⟨v,vs',d,ds',p,q,rfl,rfl,rfl,h1,h2⟩ := trodAll_cons h
  simp only [List.all_cons,Bool.and_eq_true] at hp
  obtain ⟨c,g1,g2⟩ := tU hL hp.1 h1 (hok 0 t v rfl rfl)
  obtain ⟨pargs,e1,e2,e3,e4,e5⟩ := lY hL ts vs' ds' q hp.2 h2 (fun j t v a b => hok (j + 1) t v (by simpa using a) (by simpa using b))
  refine ⟨c :: pargs,by simp [e1],by simp [e2],by simp [e3],fun i c' v' a b => ?_,fun i t' c' a b => ?_⟩
  ·cases i with
   |zero => simp at a b;subst a;subst b;exact g1
   |succ i => exact e4 i c' v' (by simpa using a) (by simpa using b)
  ·cases i with
   |zero => simp at a b;subst a;subst b;exact g2
   |succ i => exact e5 i t' c' (by simpa using a) (by simpa using b)
theorem law_stepW [Globs] (hL : eG P L) (hl : laidOutB P = true) {f : FuncId} {fn : Func} {s : ChangeSpec} {ts : List TypeId} {T : TypeId} (hvars : s.vars = []) (hts : fn.params.toList = ts) (hplain : ts.all (dX L 12) = true)
  (hread : ts.all (fun t => P.readableRec t && decide (t < P.types.size)) = true) (hres : fn.resultTypes = #[T]) (hT : P.underlying T = some .bool)
  (hspec : ∀ ds : List (DataW H),ds.length = ts.length → (s.fn H ds).results = [.lit (.bool true)] ∧ (s.fn H ds).args = ds ∧ (s.fn H ds).vars = [])
  (law : ∀ pargs : List PV,pargs.length = ts.length → (∀ (i : Nat) t c,ts[i]? = some t → pargs[i]? = some c → argW L t c) → Ret P .shared f pargs (.bool true))
  {W : World} {base : Nat} {args : Array Value} {ds gs : List (DataW H)} {before : List MemPlace} (hval : ∀ (j : Nat) t v,fn.params[j]? = some t → args[j]? = some v → Value.okWide P W .any base t v)
  (hglob : Globs.glob W) (hW : DataW.Whole enc P fn.params.toList s.vars false W args.toList ds gs before) :
  Calls P f args W fun e W' => ∃ v,e = .returned v ∧ s.post enc P fn false true false false W args v W' := by
 have hW' := hW
 obtain ⟨p,q,hA,hV,hpq,hfz,hnd⟩ := hW
 rw [hvars] at hV
 obtain ⟨rfl,rfl⟩ := trodVars_none hV
 rw [hts] at hA
 obtain ⟨pargs,e1,e2,e3,e4,e5⟩ := lY hL (base := base) ts _ _ _ hplain hA (fun j t v a b => hval j t v (by rw [← hts] at a;simpa using a) (by simpa using b))
 have hret := law pargs (by omega) e5
 have hcall := hret.2 W (fun _ => False) args.toList hglob (fun b hb => hb.elim) (by omega) (fun i c v a b => (e4 i c v a b).weaken fun b hb => ⟨hb,fun h => h⟩)
 have hargs : args.toList.toArray = args := by simp
 rw [hargs] at hcall
 refine hcall.mono ?_
 rintro e W' ⟨v,rfl,hb,hd⟩
 refine ⟨v,rfl,?_⟩
 have hv : v = .bool true := by cases hd;rfl
 subst hv
 have hlt : ∀ x ∈ p,x.block < W.heap.size := fun x hx => by
  have := hW'.lt x (by rw [hpq];simp [hx])
  simpa using this
 obtain ⟨s1,s2,s3⟩ := hspec ds (by omega)
 have hgs : ds ++ ([] : List (DataW H)) = ds := List.append_nil ds
 refine ⟨ds,[],before,[],p,[],hW',?_,?_,?_,World.keptBut_mono (fun x hx => hx.elim) (hb.frame (fun _ => False)),fun h => by cases h⟩
 ·rw [hgs,s1,hres]
  exact trodAll_mk1 (shut_bool hT true)
 ·rw [hgs,s2,hts]
  exact gL hl hb ts _ _ _ (fun t ht => by
   have := List.all_eq_true.1 hread t ht
   simpa using this) hA hlt
 ·rw [hgs,s3,hvars]
  exact rfl
end
end Go.Pv
set_option maxHeartbeats 2000000
namespace Go.Pv
attribute [local irreducible] PWP POps PQuiet PSem aC au aj ai
open Go.Proofs
theorem eY {α : Type} {f : α → List PV} {p : α → Prop} : ∀ {rows : List (List PV)},(∀ row ∈ rows,∃ x,row = f x ∧ p x) → ∃ l : List α,rows = l.map f ∧ ∀ x ∈ l,p x
 |[],_ => ⟨[],rfl,fun x h => by cases h⟩
 |row :: rows,h => by
  obtain ⟨x,rfl,hx⟩ := h row (by simp)
  obtain ⟨l,rfl,hl⟩ := eY (rows := rows) fun r hr => h r (by simp [hr])
  exact ⟨x :: l,rfl,fun y hy => by
   rcases List.mem_cons.1 hy with rfl | hy
   ·exact hx
   ·exact hl y hy⟩
theorem q9 {n : Nat} (h : n ≤ maxLen) : n ≤ 9223372036854775807 := by
 have e : maxLen = 9223372036854775807 := by decide
 omega
theorem uj {n : Nat} {cs : List PV} (h : iZ lay.get (n + 2) 22 cs) : ∃ l : List UInt16,cs = [.sl (l.map eU)] := by
 obtain ⟨rows,rfl,hr⟩ := zJ h rfl
 obtain ⟨l,rfl,-⟩ := eY (f := eU) (p := fun _ => True) fun row hrow => by
  obtain ⟨m,rfl,h1,h2⟩ := pw (hr row hrow) rfl
  have h1 : (0 : Int) ≤ m := h1
  have h2 : m ≤ (65535 : Int) := h2
  refine ⟨UInt16.ofNat m.toNat,?_,trivial⟩
  rw [eU,aL]
  congr 2
  omega
 exact ⟨l,rfl⟩
theorem yA {n : Nat} {cs : List PV} (h : iZ lay.get (n + 3) 24 cs) : ∃ a : RI,cs = eI a := by
 obtain ⟨parts,rfl,hl,hp⟩ := ju h rfl
 match parts,hl,hp with
 |[p0,p1],_,hp =>
  obtain ⟨b,rfl⟩ := wH (hp 0 _ p0 rfl rfl) rfl
  obtain ⟨l,rfl⟩ := uj (hp 1 _ p1 rfl rfl)
  exact ⟨⟨b,l⟩,rfl⟩
theorem qT {n : Nat} {cs : List PV} (h : iZ lay.get (n + 4) 26 cs) : ∃ a : RR,cs = eR a := by
 obtain ⟨parts,rfl,hl,hp⟩ := ju h rfl
 match parts,hl,hp with
 |[p0,p1],_,hp =>
  obtain ⟨a,rfl⟩ := yA (hp 0 _ p0 rfl rfl)
  obtain ⟨b,rfl⟩ := yA (hp 1 _ p1 rfl rfl)
  exact ⟨⟨a,b⟩,rfl⟩
theorem f_ {n : Nat} {cs : List PV} (h : iZ lay.get (n + 1) 3 cs) : ∃ z : Int,cs = eN z ∧ i64 z := by
 obtain ⟨m,rfl,h1,h2⟩ := pw h rfl
 exact ⟨m,rfl,h1,h2⟩
theorem ui {n : Nat} {cs : List PV} (h : iZ lay.get (n + 2) 86 cs) : ∃ l : List Int,cs = [.sl (l.map eN)] ∧ l.length ≤ 9223372036854775807 ∧ ∀ z ∈ l,i64 z := by
 obtain ⟨rows,rfl,hlen,hr⟩ := j9 h rfl
 obtain ⟨l,rfl,hz⟩ := eY (f := eN) (p := i64) fun row hrow => f_ (hr row hrow)
 exact ⟨l,rfl,by rw [List.length_map] at hlen;exact q9 hlen,hz⟩
theorem zd {n : Nat} {cs : List PV} (h : iZ lay.get (n + 5) 42 cs) : ∃ l : List RR,cs = [.sl (l.map eR)] ∧ l.length ≤ 9223372036854775807 := by
 obtain ⟨rows,rfl,hlen,hr⟩ := j9 h rfl
 obtain ⟨l,rfl,-⟩ := eY (f := eR) (p := fun _ => True) fun row hrow => by
  obtain ⟨a,rfl⟩ := qT (hr row hrow)
  exact ⟨a,rfl,trivial⟩
 exact ⟨l,rfl,by rw [List.length_map] at hlen;exact q9 hlen⟩
theorem Ai {n : Nat} {cs : List PV} (h : iZ lay.get (n + 6) 120 cs) : ∃ c : CR,cs = eC c ∧ c.S.length ≤ 9223372036854775807 ∧ c.M.length ≤ 9223372036854775807 ∧ ∀ z ∈ c.S,i64 z := by
 obtain ⟨parts,rfl,hl,hp⟩ := ju h rfl
 match parts,hl,hp with
 |[p0,p1],_,hp =>
  obtain ⟨S,rfl,h1,h2⟩ := ui (hp 0 _ p0 rfl rfl)
  obtain ⟨M,rfl,h3⟩ := zd (hp 1 _ p1 rfl rfl)
  exact ⟨⟨S,M⟩,rfl,h1,h3,h2⟩
theorem Al {n : Nat} {cs : List PV} (h : iZ lay.get (n + 7) 122 cs) : ∃ s : SR,cs = eS s ∧ (tO s ∧ s.k.S.length ≤ 9223372036854775807 ∧ s.k.M.length ≤ 9223372036854775807) := by
 obtain ⟨parts,rfl,hl,hp⟩ := ju h rfl
 match parts,hl,hp with
 |[p0,p1,p2],_,hp =>
  obtain ⟨x,rfl,hx⟩ := f_ (hp 0 _ p0 rfl rfl)
  obtain ⟨c,rfl⟩ := qT (hp 1 _ p1 rfl rfl)
  obtain ⟨k,rfl,h1,h2,h3⟩ := Ai (hp 2 _ p2 rfl rfl)
  exact ⟨⟨x,c,k⟩,by simp [eS,eN],⟨hx,h3⟩,h1,h2⟩
theorem Aj {n : Nat} {cs : List PV} (h : iZ lay.get (n + 8) 27 cs) : ∃ l : List SR,cs = [.sl (l.map eS)] ∧ wS l ∧ qJ l := by
 obtain ⟨rows,rfl,hlen,hr⟩ := j9 h rfl
 obtain ⟨l,rfl,hz⟩ := eY (f := eS) (p := fun s => tO s ∧ s.k.S.length ≤ 9223372036854775807 ∧ s.k.M.length ≤ 9223372036854775807) fun row hrow => Al (hr row hrow)
 exact ⟨l,rfl,⟨by rw [List.length_map] at hlen;exact q9 hlen,fun s hs => (hz s hs).2⟩,fun s hs => (hz s hs).1⟩
structure ArgB (b : BR) : Prop where
 w : i64 b.w
 len : wS b.l
 data : qJ b.l
theorem dec_B {c : PV} (h : argW lay.get 29 c) : ∃ b : BR,c = .agg (eB b) ∧ ArgB b := by
 obtain ⟨cs,rfl,h⟩ : ∃ cs,c = .agg cs ∧ iZ lay.get 12 29 cs := h
 obtain ⟨parts,rfl,hl,hp⟩ := ju h rfl
 match parts,hl,hp with
 |[p0,p1,p2],_,hp =>
  obtain ⟨w,rfl,hw⟩ := f_ (hp 0 _ p0 rfl rfl)
  obtain ⟨a,rfl⟩ := qT (hp 1 _ p1 rfl rfl)
  obtain ⟨l,rfl,h1,h2⟩ := Aj (hp 2 _ p2 rfl rfl)
  exact ⟨⟨w,a,l⟩,by simp [eB,eN],hw,h1,h2⟩
end Go.Pv
