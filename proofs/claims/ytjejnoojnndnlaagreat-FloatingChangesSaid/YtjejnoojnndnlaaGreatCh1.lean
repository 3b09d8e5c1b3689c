/- Texts of one hand, gathered: PvFz, FuE, FuF, FuI, FuJ, FuK, FuL, FsF, FsG, FsH, FuM, FuN, FsI, FtB, FtC, FuA, FuG, FuH, FuO. -/
import Derived.Test.YtjejnoojnndnlaaGreatEa5
import Derived.WalkKit
import Derived.Deep.LoopGhost
import Derived.Deep.RegionLaw
import Derived.Lib.Walk
import Derived.Sort.WalkB12
import Derived.Lib.SliceRun
set_option linter.unusedSectionVars false
set_option linter.unusedSimpArgs false
set_option linter.unusedVariables false
set_option linter.unnecessarySimpa false
namespace Go.Pv
open Go.RowKit
variable [Globs]
variable {s : St}
theorem Ghost.freezeD {k gk k0 g0 i j n sz : Nat} {T : TypeId} {rows : List (List PV)} {c0 : Cont} {row : List PV} (hk : Nat.beq k0 k = false) (ho : s.own k = (gk,some ⟨T,sz,rows,1⟩)) (h0 : s.own k0 = (g0,some c0)) (hkind : c0.kind = 2) (hrow : c0.rows[i]? = some row) (hj : row[j]? = some (.als k gk 0 n)) (hz0 : Nat.blt 0 c0.sz = true) (hn : n = rows.length) :
  Ghost s ((s.setOwn k (gk + 1) none).setOwn k0 g0 (some ⟨c0.ty,c0.sz,c0.rows.set i (row.set j (.sl rows)),2⟩)) := by
 intro C a w hX ⟨γ,h⟩
 subst hn
 have hne : k0 ≠ k := fun e => by subst e;simp at hk
 obtain ⟨h1,hle,-⟩ := h.drop hX ho
 have ho1 : (s.setOwn k (gk + 1) none).own k0 = (g0,some c0) := by rw [ar hne];exact h0
 have hsite := h.sites k0 c0 (by rw [h0])
 have hlt := (List.getElem?_eq_some_iff.1 hrow).1
 have hlt2 := (List.getElem?_eq_some_iff.1 hj).1
 have hfr : ∀ v,Rep (ah C γ s w) (.als k gk 0 rows.length) v → Rep (ah C γ (s.setOwn k (gk + 1) none) w) (.sl rows) v := by
  intro v hp
  refine .d ?_
  rcases h.als_at hp ho with ⟨q1,_,q3,q4⟩ | ⟨b,cap,cur,q1,q2,q3,q4,q5,q6,q7⟩
  ·have : rows = [] := (h.sites k _ (by rw [ho])).emp q1
   rw [this,q4]
   exact .sl0 _ _
  ·obtain ⟨cur',g1,g2,g3,g4,g5⟩ := h.site_at ho q1 (h.cells_sz ho q1 q3 q6)
   have hb : (ah C γ (s.setOwn k (gk + 1) none) w).ok b := by
    have hbase := h.base k _ b (by rw [ho]) q1
    refine ⟨hbase.2,fun hx => ?_,fun k' c' hc' hb' => ?_⟩
    ·have := hX b hx;omega
    ·by_cases hk' : k' = k
     ·subst hk';rw [ag] at hc';cases hc'
     ·rw [ar hk'] at hc'
      exact hk' (h.inj k' k c' _ b hc' (by rw [ho]) hb' q1)
   rw [q2]
   simp only [Nat.zero_mul]
   refine .sl rows b 0 cap sz (fun i j => cur'.getD (i * sz + j) undef) hb g2 q4 g4 (fun i j row pv e1 e2 => ?_) (fun i j row pv e1 e2 => ?_)
   ·obtain ⟨u,f1,f2,_⟩ := g5 i j row pv e1 e2
    have g1 : w.heap[b]? = some (.cells cur' T (0,0)) := g1
    show w.cell? _ = _ ∧ _
    rw [aI g1,Nat.zero_add,f1]
    simp [f1,f2]
   ·obtain ⟨u,f1,_,f3⟩ := g5 i j row pv e1 e2
    have hu : cur'.getD (i * sz + j) undef = u := by simp [f1]
    simp only [hu]
    exact hle.drep f3
 have he := iD (C := C) (γ := γ) (w := w) (c1 := ⟨c0.ty,c0.sz,c0.rows.set i (row.set j (.sl rows)),2⟩) ho1 rfl rfl (by simp)
 have hother : ∀ k',k' ≠ k0 → ((s.setOwn k (gk + 1) none).setOwn k0 g0 (some ⟨c0.ty,c0.sz,c0.rows.set i (row.set j (.sl rows)),2⟩)).own k' = (s.setOwn k (gk + 1) none).own k' := fun k' hk' => ar hk'
 have hsome : ∀ k' c',(((s.setOwn k (gk + 1) none).setOwn k0 g0 (some ⟨c0.ty,c0.sz,c0.rows.set i (row.set j (.sl rows)),2⟩)).own k').2 = some c' → ∃ c'',((s.setOwn k (gk + 1) none).own k').2 = some c'' := by
  intro k' c' hc'
  by_cases hk' : k' = k0
  ·subst hk';exact ⟨c0,by rw [ho1]⟩
  ·rw [hother k' hk'] at hc';exact ⟨c',hc'⟩
 refine ⟨γ,h1.defers,h1.size,fun r => by rw [he];exact h1.regs r,fun k' c' hc' => ?_,fun k1 k2 c1 c2 b e1 e2 e3 e4 => ?_,fun k' c' b e1 e2 => ?_,h1.below,h1.top,fun c v hk => by rw [he];exact h1.kept c v hk⟩
 ·rw [he]
  by_cases hk' : k' = k0
  ·subst hk'
   rw [ag] at hc'
   have hc' := Option.some.inj hc'
   subst hc'
   have hz0 : 0 < c0.sz := by simpa using hz0
   refine ⟨fun hb => ?_,(fun b _ hz => by simp only at hz;omega),(fun b _ hz => by simp only at hz;omega),fun b hb _ => ?_⟩
   ·have := hsite.emp hb
    rw [this] at hrow;simp at hrow
   ·obtain ⟨cur,f1,f2,f3,f4,f5⟩ := hsite.at_ b hb hz0
    refine ⟨cur,f1,f2,by simpa using f3,fun r hr => ?_,fun i' j' row1 pv1 e1 e2 => ?_⟩
    ·rcases List.mem_or_eq_of_mem_set hr with hr | rfl
     ·exact f4 r hr
     ·simpa using f4 row (List.mem_of_getElem? hrow)
    ·by_cases hi : i' = i
     ·subst hi
      rw [List.getElem?_set_self hlt] at e1
      have e1 := Option.some.inj e1
      subst e1
      by_cases hjj : j' = j
      ·subst hjj
       rw [List.getElem?_set_self hlt2] at e2
       have e2 := Option.some.inj e2
       subst e2
       obtain ⟨v,u1,u2,u3⟩ := f5 i' j' row _ hrow hj
       rw [hkind] at u3
       exact ⟨v,u1,u2,hfr v u3⟩
      ·rw [List.getElem?_set_ne (Ne.symm hjj)] at e2
       obtain ⟨v,u1,u2,u3⟩ := f5 i' j' row pv1 hrow e2
       rw [hkind] at u3
       exact ⟨v,u1,u2,Rep.mono hle u3⟩
     ·rw [List.getElem?_set_ne (Ne.symm hi)] at e1
      obtain ⟨v,u1,u2,u3⟩ := f5 i' j' row1 pv1 e1 e2
      rw [hkind] at u3
      exact ⟨v,u1,u2,Rep.mono hle u3⟩
  ·rw [hother k' hk'] at hc'
   exact h1.sites k' c' hc'
 ·obtain ⟨d,hd⟩ := hsome k1 c1 e1
  obtain ⟨d',hd'⟩ := hsome k2 c2 e2
  exact h1.inj k1 k2 d d' b hd hd' e3 e4
 ·obtain ⟨d,hd⟩ := hsome k' c' e1
  exact h1.base k' d b hd e2
end Go.Pv
set_option maxHeartbeats 2000000
namespace Go.Pv
attribute [local irreducible] PWP POps PQuiet PSem aC au aj ai
open Go.Proofs
set_option maxRecDepth 20000 in
theorem kx (l : List Int) (hl : l.length ≤ 1000000000) : Ret Tryz.prog .fresh 172 [.sl (l.map eN)] (.sl (l.map eN)) := by
 refine Ret.of_pwp layOk mixed Go.Proofs.Tryz.func172 rfl (by decide) rfl rfl ?_
 ((repeat ((fail_if_success (with_reducible refine aP 1 ?_));refine cF rfl ?_));refine aE 1 ?_)
 refine ac rfl ?_
 refine aR ?_
 refine aV rfl (mK layOk rfl rfl rfl (fun h0 => ?_) ?_)
 ·rw [h0]
  refine aJ ?_
  (repeat ((fail_if_success (with_reducible refine ic ?_));refine cF rfl ?_))
  refine aB (Ghost.nilfs (t := 2) rfl) ?_
  repeat refine ac rfl ?_
  exact ox rfl rfl rfl trivial rfl
 ·refine aJ ?_
  repeat refine ac rfl ?_
  refine ay (bb 0 rfl rfl rfl rfl rfl rfl rfl rfl rfl rfl rfl (by repeat' constructor) rfl ?_)
  repeat refine ac rfl ?_
  refine ay (bC 1 rfl rfl rfl rfl rfl rfl rfl rfl rfl rfl rfl (by repeat' constructor) (by intro row hr;obtain ⟨p,_,rfl⟩ := List.mem_map.1 hr;rfl) rfl rfl (by simp;omega) (by simp;omega) ?_)
  (repeat ((fail_if_success (with_reducible refine ic ?_));refine cF rfl ?_))
  refine aB (Ghost.takeF (k := 5) (t := 2) l rfl rfl rfl rfl (fun _ => rfl)) ?_
  repeat refine ac rfl ?_
  exact ox rfl rfl rfl (by repeat' constructor) rfl
def dA (x : RR) : RR := ofQ x.val
def jC (x : SR) : SR := ⟨x.x,dA x.c,⟨x.k.S,x.k.M.map dA⟩⟩
def Ag (ch : SR → SR) (b : BR) : BR := ⟨b.w,dA b.a,b.l.map fun x => ch (jC x)⟩
theorem sF {L : Lay} {fn : Func} {K : (Nat → Nat × Option Cont) → PV → Prop} {s : St} (owns : List (Nat × Nat × Cont)) (h : fn.results.toList = []) (ho : FitO s owns) (hk : ∀ s1 : St,K (s1.over [] owns).own (.tup [])) : ai L fn (fun s' r => K s'.own r) .normal s := by
 have hk := hk s
 rw [Fit.over (l := []) ho] at hk
 exact eP h hk
structure ChOk (f : FuncId) (caps : List PV) (ch : SR → SR) (x : SR) : Prop where
 run : ∀ {K : St → Prop} {s : St} {d g g4 g5 g400 : Nat} {c4 c5 c400 : Cont} {c a : Operand} {tys : Array TypeId} {ty : TypeId} {pos : String} {af : Array Edge},s.ev c = .clo f caps → s.ev a = .ptr 8 g 0 0 →
 FitO s [(8,g,⟨122,7,[eS x],2⟩),(4,g4,c4),(5,g5,c5),(400,g400,c400)] →
 (∀ s1 : St,K (({ reg := s.reg,own := (s1.over [] [(8,g,⟨122,7,[eS (ch x)],2⟩),(4,g4,c4),(5,g5,c5),(400,g400,c400)]).own } : St).putR d (.tup []))) →
 Sm Tryz.prog lay.get s ⟨some d,.call ⟨.value c,#[a],tys⟩,ty,pos,af,none⟩ K
theorem xt (x : SR) : ChOk 136 [] id x := by
 constructor
 intro K s d g g4 g5 g400 c4 c5 c400 c a tys ty pos af hc ha ho hK
 refine bX layOk rfl hc Tryz.func136 rfl (by decide) rfl rfl ?_
 show PWP _ _ _ _ (bF s (([a] : List Operand).map s.ev ++ []))
 have hk := hK s
 simp only [id_eq] at hk
 rw [Fit.over (l := []) ho] at hk
 repeat refine ac rfl ?_
 exact eP rfl hk
theorem vK (up : RR) (hu : up.sz 12) (x : SR) (hx : x.c.sz 100) : ChOk 124 [.dref (eR up) 0] (fun x => ⟨x.x,ofQ (x.c.val + up.val),x.k⟩) x := by
 constructor
 intro K s d g g4 g5 g400 c4 c5 c400 c a tys ty pos af hc ha ho hK
 have h1 := dj x.c up (hx := hx.v) (hy := hu.v) (by decide) (by decide)
 refine bX layOk rfl hc Tryz.func124 rfl (by decide) rfl rfl ?_
 show PWP _ _ _ _ (bF s (([a] : List Operand).map s.ev ++ [.dref (eR up) 0]))
 rw [show (([a] : List Operand).map s.ev ++ [PV.dref (eR up) 0]) = [.ptr 8 g 0 0,.dref (eR up) 0] by simp [ha]]
 rw [show bF s [.ptr 8 g 0 0,.dref (eR up) 0] = bF (s.over [] [(8,g,⟨122,7,[eS x],2⟩),(4,g4,c4),(5,g5,c5),(400,g400,c400)]) [.ptr 8 g 0 0,.dref (eR up) 0] by rw [Fit.over (l := []) ho]]
 try dsimp only at hK
 generalize ofQ (x.c.val + up.val) = X at *
 obtain ⟨xx,xc,xk⟩ := x
 simp only at *
 repeat refine ac rfl ?_
 refine dw [] [8] 9 [9] (by decide +kernel) (by decide +kernel) ?_
 repeat refine ac rfl ?_
 refine aq rfl rfl rfl h1 rfl rfl ?_
 repeat refine ac rfl ?_
 exact sF (K := fun o r => K (({ reg := s.reg,own := o } : St).putR d r)) [(8,g,⟨122,7,[eS ⟨xx,X,xk⟩],2⟩),(4,g4,c4),(5,g5,c5),(400,g400,c400)] rfl ⟨rfl,rfl,rfl,rfl,trivial⟩ hK
theorem cD {α β : Type} {f : α → β} {l : List α} {k : Nat} {x : α} (h : l[k]? = some x) : (l.take (k + 1)).map f = (l.take k).map f ++ [f x] := by rw [cq h,List.map_append];rfl
set_option maxRecDepth 20000 in
theorem kA (b : BR) (hb : b.Lim) (h12 : b.l.length ≤ 1000) (hM : ∀ s ∈ b.l,s.k.M.length ≤ 1000) (cl : FuncId) (caps : List PV) (ch : SR → SR) (hch : ∀ s ∈ b.l,ChOk cl caps ch (jC s)) :
  Ret Tryz.prog .shared 123 [.agg (eB b),.clo cl caps] (.agg (eB (Ag ch b))) := by
 have h1 := pW b.a (hx := hb.a.v) (by decide)
 have hml : (b.l.map eS).length = b.l.length := by simp
 obtain ⟨w,ba,l⟩ := b
 simp only at *
 have hll := hb.l.1
 rw [show ofQ ba.val = dA ba from rfl] at h1
 clear hb
 generalize hG : (fun x => ch (jC x)) = G
 rw [Ag,hG]
 generalize dA ba = A0 at *
 refine Ret.of_pwp layOk mixed Go.Proofs.Tryz.func123 rfl (by decide) rfl rfl ?_
 repeat refine ac rfl ?_
 refine aZ 6 1 [11,12,13,14,15,16,5] [] (by decide +kernel) rfl ?_
 repeat refine ac rfl ?_
 refine aq rfl rfl rfl h1 rfl rfl ?_
 repeat refine ac rfl ?_
 refine aB (Ghost.nilcell (k := 400) (k0 := 5) (i := 0) (j := 5) (row := I w :: (eR A0 ++ [.nil])) 122 7 1 rfl rfl rfl rfl rfl rfl rfl) ?_
 refine ax (fun i : Nat => i ≤ l.length) (fun i => [(1,.clo cl caps),(4,.ptr 4 1 0 0),(5,.ptr 5 1 0 0),(18,.sl (l.map eS)),(19,I l.length),(20,I (i : Nat))])
  (fun i => [(4,1,⟨29,6,[I 0 :: (zN ++ [.nil])],2⟩),(5,1,⟨29,6,[I w :: (eR A0 ++ [.als 400 (1 + i) 0 (((l.take i).map G).map eS).length])],2⟩),(400,1 + i,⟨122,7,((l.take i).map G).map eS,1⟩)]) (fun i => l.length - i) 0 (Nat.zero_le _) ⟨rfl,rfl,rfl,rfl,by rw [← hml];rfl,rfl,rfl,rfl,rfl,trivial⟩ ?_
 intro i s hi
 repeat refine ac rfl ?_
 refine ae rfl ?_ ?_<;>intro h
 ·have hlt : i < l.length := by have := of_decide_eq_true h;omega
  clear h
  obtain ⟨x,hx⟩ := aM hlt
  have hxm := List.mem_of_getElem? hx
  have hxl := hll x hxm
  have hcx := hch x hxm
  have hMx := hM x hxm
  have hrow := cD (f := G) hx
  have hil : ((l.take i).map G).length ≤ 1000 := by rw [List.length_map,List.length_take];omega
  have hw := f7 i
  have hGx : G x = ch (jC x) := by rw [← hG]
  generalize G x = y at *
  generalize (l.take i).map G = B at *
  have e1 := pW x.c (hx := hxl.c.v) (by decide)
  rw [show ofQ x.c.val = dA x.c from rfl] at e1
  have e2 := (kx x.k.S hxl.k.ls).shared_of_fresh
  have e3 : ∀ m ∈ x.k.M,Ret Tryz.prog .shared 171 [.agg (eR m)] (.agg (eR (dA m))) := fun m hm => pW m (hx := (hxl.k.m m hm).v) (by decide)
  have hmm : (x.k.M.map eR).length = x.k.M.length := by simp
  obtain ⟨xx,xc,xS,xM⟩ := x
  simp only [jC] at *
  generalize dA xc = XC at *
  repeat refine ac rfl ?_
  refine bm rfl rfl rfl rfl rfl rfl rfl hx rfl ?_
  (repeat ((fail_if_success (with_reducible refine aP 5 ?_));refine cF rfl ?_))
  refine aB (gD 8) ?_
  refine aZ 11 1 [24,25,26,27,28,29,30,31,32,33,34,8] [] (by decide +kernel) rfl ?_
  repeat refine ac rfl ?_
  refine aq rfl rfl rfl e1 rfl rfl ?_
  repeat refine ac rfl ?_
  refine aq rfl rfl rfl e2 rfl rfl ?_
  repeat refine ac rfl ?_
  refine dJ [(1,.clo cl caps),(4,.ptr 4 1 0 0),(5,.ptr 5 1 0 0),(8,.ptr 8 ((s.own 8).1 + 2 + 1) 0 0),(18,.sl (l.map eS)),(19,I l.length),(20,I (i : Nat)),(37,.sl (xM.map eR)),(38,I (xM.map eR).length),(39,I ((0 : Nat) : Int))]
   [(4,1,⟨29,6,[I 0 :: (zN ++ [.nil])],2⟩),(5,1,⟨29,6,[I w :: (eR A0 ++ [.als 400 (1 + i) 0 (B.map eS).length])],2⟩),(400,1 + i,⟨122,7,B.map eS,1⟩),(8,(s.own 8).1 + 2 + 1,⟨122,7,[I xx :: (eR XC ++ [.sl (xS.map eN),.nil])],2⟩)]
   ⟨rfl,rfl,rfl,rfl,rfl,rfl,rfl,rfl,rfl,rfl,rfl,rfl,rfl,rfl,trivial⟩ ?_
  generalize (s.own 8).1 + 2 + 1 = g8
  rw [hmm]
  intro s1
  refine aB (Ghost.nilcell (k := 300) (k0 := 8) (i := 0) (j := 6) (row := I xx :: (eR XC ++ [.sl (xS.map eN),.nil])) 26 4 1 rfl rfl rfl rfl rfl rfl rfl) ?_
  have hg3 : ∃ g3,(s1.own 300).1 + 1 = g3 := ⟨_,rfl⟩
  obtain ⟨g3,hg3⟩ := hg3
  refine ax (fun k : Nat => k ≤ xM.length) (fun k => [(1,.clo cl caps),(4,.ptr 4 1 0 0),(5,.ptr 5 1 0 0),(8,.ptr 8 g8 0 0),(18,.sl (l.map eS)),(19,I l.length),(20,I (i : Nat)),(37,.sl (xM.map eR)),(38,I xM.length),(39,I (k : Nat))])
   (fun k => [(4,1,⟨29,6,[I 0 :: (zN ++ [.nil])],2⟩),(5,1,⟨29,6,[I w :: (eR A0 ++ [.als 400 (1 + i) 0 (B.map eS).length])],2⟩),(400,1 + i,⟨122,7,B.map eS,1⟩),(8,g8,⟨122,7,[I xx :: (eR XC ++ [.sl (xS.map eN),.als 300 (g3 + k) 0 (((xM.take k).map dA).map eR).length])],2⟩),(300,g3 + k,⟨26,4,((xM.take k).map dA).map eR,1⟩)]) (fun k => xM.length - k) 0 (Nat.zero_le _)
   ⟨rfl,rfl,rfl,rfl,rfl,rfl,rfl,rfl,rfl,rfl,rfl,rfl,rfl,by rw [← hg3];rfl,by rw [← hg3];rfl,trivial⟩ ?_
  clear hg3
  intro k s2 hk
  repeat refine ac rfl ?_
  refine ae rfl ?_ ?_<;>intro h
  ·have hlk : k < xM.length := by have := of_decide_eq_true h;omega
   clear h
   obtain ⟨m,hm⟩ := aM hlk
   have e4 := e3 m (List.mem_of_getElem? hm)
   have hrk := cD (f := dA) hm
   have hkl : ((xM.take k).map dA).length ≤ 1000 := by rw [List.length_map,List.length_take];omega
   have hwk : IntKind.i64.wrap (((k : Nat) : Int) + 1) = ((k + 1 : Nat) : Int) := by rw [wrap_i64 (by omega) (by omega)];omega
   generalize dA m = n at *
   generalize (xM.take k).map dA = E at *
   repeat refine ac rfl ?_
   refine bm rfl rfl rfl rfl rfl rfl rfl hm rfl ?_
   (repeat ((fail_if_success (with_reducible refine aP 9 ?_));refine cF rfl ?_))
   refine dw [48,300] [8] 9 [5,6,9] (by decide +kernel) (by decide +kernel) ?_
   repeat refine ac rfl ?_
   refine aq rfl rfl rfl e4 rfl rfl ?_
   repeat refine ac rfl ?_
   refine qH rfl rfl rfl (bb 1 rfl rfl rfl rfl rfl rfl rfl rfl rfl rfl rfl (by repeat' constructor) rfl ⟨iL rfl,?_⟩)
   repeat refine ac rfl ?_
   refine qH rfl rfl rfl (bC 1 rfl rfl rfl rfl rfl rfl rfl rfl rfl rfl rfl (by repeat' constructor) (by intro row hr;first | (simp at hr;subst hr;rfl) | (simp at hr;obtain ⟨_,_,rfl⟩ := hr;rfl) | simp at hr) rfl rfl (by simp;omega) (by simp;omega) ⟨iL rfl,?_⟩)
   repeat refine ac rfl ?_
   have hb3 : g3 + (k + 1) = g3 + k + 1 := rfl
   refine ⟨k + 1,hlk,by omega,rfl,rfl,rfl,rfl,rfl,rfl,rfl,rfl,rfl,congrArg I hwk,rfl,rfl,rfl,?_,?_,trivial⟩
   ·rw [hrk,hb3]
    refine Eq.trans (b := (g8,some (Cont.mk 122 7 [I xx :: (eR XC ++ [.sl (xS.map eN),.als 300 (g3 + k + 1) 0 (E.map eR ++ [eR n]).length])] 2))) rfl ?_
    rw [show (E ++ [n]).map eR = E.map eR ++ [eR n] by rw [List.map_append];rfl]
   ·rw [hrk,hb3,show (E ++ [n]).map eR = E.map eR ++ [eR n] by rw [List.map_append];rfl]
    rfl
  ·have hke : k = xM.length := by have := of_decide_eq_false h;omega
   clear h
   subst hke
   rw [List.take_length]
   refine aB (Ghost.freezeD (k := 300) (k0 := 8) (i := 0) (j := 6) (row := I xx :: (eR XC ++ [.sl (xS.map eN),.als 300 (g3 + xM.length) 0 ((xM.map dA).map eR).length])) rfl rfl rfl rfl rfl rfl rfl rfl) ?_
   ((repeat ((fail_if_success (with_reducible refine aP 11 ?_));refine cF rfl ?_));refine aE 1 ?_)
   refine ac rfl ?_
   refine aR ?_
   refine aV rfl (hcx.run rfl rfl ⟨rfl,rfl,rfl,rfl,trivial⟩ fun s3 => ?_)
   refine aJ ?_
   repeat refine ac rfl ?_
   refine ay (bb 1 rfl rfl rfl rfl rfl rfl rfl rfl rfl rfl rfl (by repeat' constructor) rfl ?_)
   repeat refine ac rfl ?_
   refine ay (bC 1 rfl rfl rfl rfl rfl rfl rfl rfl rfl rfl rfl (by repeat' constructor) (by intro row hr;first | (simp at hr;subst hr;rfl) | simp at hr) rfl rfl (by simp;omega) (by simp;omega) ?_)
   repeat refine ac rfl ?_
   have hb4 : 1 + (i + 1) = 1 + i + 1 := rfl
   refine ⟨i + 1,hlt,by omega,rfl,rfl,rfl,rfl,rfl,congrArg I hw,rfl,?_,?_,trivial⟩
   ·rw [hrow,hb4]
    refine Eq.trans (b := (1,some (Cont.mk 29 6 [I w :: (eR A0 ++ [.als 400 (1 + i + 1) 0 (B.map eS ++ [eS y]).length])] 2))) ?_ ?_
    ·rw [hGx]
     rfl
    ·rw [show (B ++ [y]).map eS = B.map eS ++ [eS y] by rw [List.map_append];rfl]
   ·rw [hrow,hb4,show (B ++ [y]).map eS = B.map eS ++ [eS y] by rw [List.map_append];rfl,hGx]
    rfl
 ·have hie : i = l.length := by have := of_decide_eq_false h;omega
  clear h
  subst hie
  rw [List.take_length]
  refine aB (Ghost.freezeD (k := 400) (k0 := 5) (i := 0) (j := 5) (row := I w :: (eR A0 ++ [.als 400 (1 + l.length) 0 ((l.map G).map eS).length])) rfl rfl rfl rfl rfl rfl rfl rfl) ?_
  repeat refine ac rfl ?_
  exact aF rfl rfl rfl
def zB : List PV := I 0 :: (zN ++ [.nil])
def bZero : BR := ⟨0,RR.zero,[]⟩
theorem WeakL.app {a b c d : List PV} (h1 : WeakL a b) (h2 : WeakL c d) : WeakL (a ++ c) (b ++ d) := by
 induction h1 with
 |nil => exact h2
 |cons h _ ih => exact .cons h ih
theorem dc : WeakL zB (eB bZero) := .cons (.rfl _) (gr.app (.cons .nil .nil))
set_option maxRecDepth 20000 in
theorem jB (b : BR) (hb : b.Lim) : Ret Tryz.prog .shared 122 [.agg (eB b)] (.tup [.agg (eB (if aH b = 0 then b else bZero)),I (aH b)]) := by
 have h1 := bh b hb
 by_cases h0 : aH b = 0
 ·rw [if_pos h0,h0]
  rw [h0] at h1
  refine Ret.of_pwp layOk mixed Go.Proofs.Tryz.func122 rfl (by decide) rfl rfl ?_
  repeat refine ac rfl ?_
  refine aT rfl rfl rfl h1 rfl rfl rfl ?_
  repeat refine ac rfl ?_
  exact aF rfl rfl rfl
 ·rw [if_neg h0]
  suffices hz : Ret Tryz.prog .shared 122 [.agg (eB b)] (.tup [.agg zB,I (aH b)]) from hz.weak (WeakL.refl _) (WeakL.tup (.cons dc.agg (WeakL.refl _)))
  generalize aH b = e at *
  refine Ret.of_pwp layOk mixed Go.Proofs.Tryz.func122 rfl (by decide) rfl rfl ?_
  repeat refine ac rfl ?_
  refine aT rfl rfl rfl h1 rfl rfl rfl ?_
  repeat refine ac rfl ?_
  refine ae rfl ?_ ?_<;>intro h
  ·clear h
   repeat refine ac rfl ?_
   exact aF rfl rfl rfl
  ·simp at h
   exact absurd h h0
def wP (up : RR) (x : SR) : SR := ⟨x.x,ofQ (x.c.val + up.val),x.k⟩
def tM (up : RR) (b : BR) : BR := Ag (wP up) b
set_option maxRecDepth 20000 in
theorem sY (b : BR) (hb : b.Lim) (h0 : aH b ≠ 0) (up : RR) : Ret Tryz.prog .shared 43 [.agg (eB b),.agg (eR up)] (.tup [.agg (eB bZero),I (aH b)]) := by
 have h1 := bh b hb
 suffices hz : Ret Tryz.prog .shared 43 [.agg (eB b),.agg (eR up)] (.tup [.agg zB,I (aH b)]) from hz.weak (WeakL.refl _) (WeakL.tup (.cons dc.agg (WeakL.refl _)))
 generalize aH b = e at *
 refine Ret.of_pwp layOk mixed Go.Proofs.Tryz.func43 rfl (by decide) rfl rfl ?_
 repeat refine ac rfl ?_
 refine aT rfl rfl rfl h1 rfl rfl rfl ?_
 repeat refine ac rfl ?_
 refine ae rfl ?_ ?_<;>intro h
 ·clear h
  repeat refine ac rfl ?_
  exact aF rfl rfl rfl
 ·simp at h
  exact absurd h h0
set_option maxRecDepth 20000 in
theorem vL {up : RR} (b : BR) (hb : b.Lim) (h12 : b.l.length ≤ 1000) (hM : ∀ s ∈ b.l,s.k.M.length ≤ 1000) (hl : (tM up b).Lim) (h0 : aH b = 0) (hu : up.sz 12) : Ret Tryz.prog .shared 43 [.agg (eB b),.agg (eR up)] (.tup [.agg (eB (if aH (tM up b) = 0 then tM up b else bZero)),I (aH (tM up b))]) := by
 have h1 := bh b hb
 rw [h0] at h1
 have hlw : ∀ {x : RR},x.sz 12 → (dA x).sz 100 := fun {x} hx => by
  have := c7 (hx.v).hq.ok
  exact ⟨by show (ofQ x.val).n.l.length ≤ 100;omega,by show (ofQ x.val).d.l.length ≤ 100;omega⟩
 have h2 := kA b hb h12 hM 124 [.dref (eR up) 0] (wP up) (fun s hs => vK up hu (jC s) (hlw (hb.l.1 s hs).c))
 have h3 := jB (tM up b) hl
 rw [show Ag (wP up) b = tM up b from rfl] at h2
 generalize aH (tM up b) = e at *
 generalize hX : (if e = 0 then tM up b else bZero) = X at *
 generalize tM up b = c at *
 refine Ret.of_pwp layOk mixed Go.Proofs.Tryz.func43 rfl (by decide) rfl rfl ?_
 (repeat ((fail_if_success (with_reducible refine aP 1 ?_));refine cF rfl ?_))
 refine aB (Ghost.data (k := 3) (t := 3) rfl rfl rfl rfl) ?_
 repeat refine ac rfl ?_
 refine aT rfl rfl rfl h1 rfl rfl rfl ?_
 repeat refine ac rfl ?_
 refine aq rfl rfl rfl h2 rfl rfl ?_
 repeat refine ac rfl ?_
 refine aq rfl rfl rfl h3 rfl rfl ?_
 repeat refine ac rfl ?_
 exact aF rfl rfl rfl
def gu (b : BR) (m x : Int) : Rat := ((b.w : Rat) * b.a.val + (m : Rat) * (x : Rat)) / ((b.w + m : Int) : Rat)
def kg (b : BR) (m x : Int) : BR := ⟨b.w + m,ofQ (gu b m x),b.l.map jC⟩
theorem wT {b : BR} {m x : Int} (hw : 1 ≤ b.w ∧ b.w ≤ 1000000000) (ha : b.a.sz 3) (hm : 0 ≤ m ∧ m ≤ 1000000000) (hx : -1000000 ≤ x ∧ x ≤ 1000000) : hq (gu b m x) 8 := by
 have e : gu b m x = ((b.w * b.a.n.val + m * x * b.a.d.den : Int) : Rat) / ((b.a.d.den * (b.w + m) : Int) : Rat) := by
  rw [gu,RR.val]
  have hd : ((b.a.d.den : Int) : Rat) ≠ 0 := by have := b.a.d.den_ne;exact_mod_cast this
  have hs : ((b.w + m : Int) : Rat) ≠ 0 := by
   have : (b.w + m : Int) ≠ 0 := by omega
   exact_mod_cast this
  push_cast at *
  generalize (b.a.d.den : Rat) = D at *
  generalize (b.a.n.val : Rat) = P at *
  generalize (b.w : Rat) = W at *
  generalize (m : Rat) = M at *
  grind
 have h1 := b.a.n.val_lt (n := 3) ha.1
 have h2 := b.a.d.den_lt (n := 3) ha.2 (by decide)
 have h3 := b.a.d.den_ne
 generalize b.a.d.den = D at *
 generalize b.a.n.val = P at *
 rw [e]
 rw [show 65536 ^ 3 = 281474976710656 by decide] at h1 h2
 have p1 : (b.w * P).natAbs ≤ 1000000000 * 281474976710656 := by rw [Int.natAbs_mul];exact Nat.mul_le_mul (by omega) (by omega)
 have p2 : (m * x * D).natAbs ≤ 1000000000 * 1000000 * 281474976710656 := by rw [Int.natAbs_mul,Int.natAbs_mul];exact Nat.mul_le_mul (Nat.mul_le_mul (by omega) (by omega)) (by omega)
 have p3 : (D * (b.w + m)).natAbs ≤ 281474976710656 * 2000000000 := by rw [Int.natAbs_mul];exact Nat.mul_le_mul (by omega) (by omega)
 have e8 : 65536 ^ 8 = 340282366920938463463374607431768211456 := by decide
 refine jd (Int.mul_ne_zero h3 (by omega)) ?_ ?_
 ·have := Int.natAbs_add_le (b.w * P) (m * x * D)
  rw [e8]
  omega
 ·rw [e8]
  omega
set_option maxRecDepth 20000 in
theorem wU (b : BR) (hb : b.Lim) (h0 : aH b ≠ 0) (m x : Int) : Ret Tryz.prog .shared 67 [.agg (eB b),I m,I x] (.tup [.agg (eB bZero),I (aH b)]) := by
 have h1 := bh b hb
 suffices hz : Ret Tryz.prog .shared 67 [.agg (eB b),I m,I x] (.tup [.agg zB,I (aH b)]) from hz.weak (WeakL.refl _) (WeakL.tup (.cons dc.agg (WeakL.refl _)))
 generalize aH b = e at *
 refine Ret.of_pwp layOk mixed Go.Proofs.Tryz.func67 rfl (by decide) rfl rfl ?_
 repeat refine ac rfl ?_
 refine aT rfl rfl rfl h1 rfl rfl rfl ?_
 repeat refine ac rfl ?_
 refine ae rfl ?_ ?_<;>intro h
 ·clear h
  repeat refine ac rfl ?_
  exact aF rfl rfl rfl
 ·simp at h
  exact absurd h h0
set_option maxRecDepth 20000 in
theorem wV (b : BR) (hb : b.Lim) (h0 : aH b = 0) (m x : Int) (hf : (m < 0 ∨ 1000000000 < m) ∨ (x < -1000000 ∨ 1000000 < x)) : Ret Tryz.prog .shared 67 [.agg (eB b),I m,I x] (.tup [.agg (eB bZero),I 2]) := by
 have h1 := bh b hb
 rw [h0] at h1
 have h2 := nk x
 suffices hz : Ret Tryz.prog .shared 67 [.agg (eB b),I m,I x] (.tup [.agg zB,I 2]) from hz.weak (WeakL.refl _) (WeakL.tup (.cons dc.agg (WeakL.refl _)))
 refine Ret.of_pwp layOk mixed Go.Proofs.Tryz.func67 rfl (by decide) rfl rfl ?_
 repeat refine ac rfl ?_
 refine aT rfl rfl rfl h1 rfl rfl rfl ?_
 repeat refine ac rfl ?_
 refine cb rfl rfl rfl ?_ ?_<;>intro h
 ·clear h
  repeat refine ac rfl ?_
  exact aF rfl rfl rfl
 have g1 := of_decide_eq_false h
 clear h
 repeat refine ac rfl ?_
 refine cb rfl rfl rfl ?_ ?_<;>intro h
 ·clear h
  repeat refine ac rfl ?_
  exact aF rfl rfl rfl
 have g2 := of_decide_eq_false h
 clear h
 rw [decide_eq_true (hf.resolve_left (fun h => h.elim (fun h => g1 h) (fun h => g2 h)))] at h2
 repeat refine ac rfl ?_
 refine aT rfl rfl rfl h2 rfl rfl rfl ?_
 repeat refine ac rfl ?_
 exact aF rfl rfl rfl
theorem kF {b : BR} (h0 : aH b = 0) : 1 ≤ b.w ∧ b.w ≤ 1000000000 := by
 have := ku h0
 exact ⟨by omega,by omega⟩
set_option maxRecDepth 20000 in
theorem yY (b : BR) (hb : b.Lim) (h12 : b.l.length ≤ 1000) (hM : ∀ s ∈ b.l,s.k.M.length ≤ 1000) (h0 : aH b = 0) (m x : Int) (hm : 0 ≤ m ∧ m ≤ 1000000000) (hx : -1000000 ≤ x ∧ x ≤ 1000000) (hl : (kg b m x).Lim) :
  Ret Tryz.prog .shared 67 [.agg (eB b),I m,I x] (.tup [.agg (eB (if aH (kg b m x) = 0 then kg b m x else bZero)),I (aH (kg b m x))]) := by
 have h1 := bh b hb
 rw [h0] at h1
 have hw := kF h0
 have h2 := nk x
 rw [decide_eq_false (by omega)] at h2
 have h3 := kA b hb h12 hM 136 [] _root_.id (fun s _ => xt (jC s))
 have zw : Zb b.w := aN hb.w.1 hb.w.2
 have zm : Zb m := aN (by omega) (by omega)
 have zx : Zb x := aN (by omega) (by omega)
 have zs : Zb (b.w + m) := aN (by omega) (by omega)
 have k1 := aS b.w ⟨by omega,by omega⟩
 have k2 := dV (ofQ (b.w : Rat)) b.a (hy := hb.a.v) (by decide) (by decide)
 have v2 : Vq (ofQ ((b.w : Rat) * b.a.val)) ((b.w : Rat) * b.a.val) (4 + 13) := Vq.ofQ (h := @HQ.mul _ _ 4 13 HQ.int hb.a.v.hq)
 have k3 := aS m ⟨by omega,by omega⟩
 have k4 := aS x ⟨by omega,by omega⟩
 have k5 := dV (ofQ (m : Rat)) (ofQ (x : Rat)) (by decide) (by decide)
 have v5 : Vq (ofQ ((m : Rat) * (x : Rat))) ((m : Rat) * (x : Rat)) (4 + 4) := Vq.ofQ (h := @HQ.mul _ _ 4 4 HQ.int HQ.int)
 have k6 := dj (ofQ ((b.w : Rat) * b.a.val)) (ofQ ((m : Rat) * (x : Rat))) (hx := v2) (hy := v5) (by decide) (by decide)
 have v6 : Vq (ofQ ((b.w : Rat) * b.a.val + (m : Rat) * (x : Rat))) ((b.w : Rat) * b.a.val + (m : Rat) * (x : Rat)) (4 + 13 + (4 + 4) + 1) := Vq.ofQ (h := @HQ.add _ _ (4 + 13) (4 + 4) (b8 v2) (b8 v5))
 have k7 := aS (b.w + m) ⟨by omega,by omega⟩
 have k8 := mt (ofQ ((b.w : Rat) * b.a.val + (m : Rat) * (x : Rat))) (ofQ ((b.w + m : Int) : Rat)) (hx := v6) (by decide) (by decide) (by
  have : (b.w + m : Int) ≠ 0 := by omega
  exact_mod_cast this)
 rw [show ((b.w : Rat) * b.a.val + (m : Rat) * (x : Rat)) / ((b.w + m : Int) : Rat) = gu b m x from rfl] at k8
 have hwm : IntKind.i64.wrap (b.w + m) = b.w + m := wrap_i64 (by omega) (by omega)
 have k9 := jB (kg b m x) hl
 have hcp : Ag _root_.id b = ⟨b.w,dA b.a,b.l.map jC⟩ := rfl
 have had : kg b m x = ⟨b.w + m,ofQ (gu b m x),b.l.map jC⟩ := rfl
 rw [hcp] at h3
 generalize hE : aH (kg b m x) = e at *
 generalize hX : (if e = 0 then kg b m x else bZero) = X at *
 rw [had] at k9
 clear had hE hX hl hcp h0 hM h12 zw zm zx zs v2 v5 v6
 generalize ofQ (gu b m x) = A9 at *
 generalize ofQ ((b.w : Rat) * b.a.val + (m : Rat) * (x : Rat)) = A6 at *
 generalize ofQ ((b.w : Rat) * b.a.val) = A2 at *
 generalize ofQ ((m : Rat) * (x : Rat)) = A5 at *
 generalize ofQ ((b.w + m : Int) : Rat) = A7 at *
 generalize ofQ (b.w : Rat) = A1 at *
 generalize ofQ (m : Rat) = A3 at *
 generalize ofQ (x : Rat) = A4 at *
 generalize b.l.map jC = L at *
 generalize dA b.a = A0 at *
 obtain ⟨w,ba,l⟩ := b
 simp only at *
 refine Ret.of_pwp layOk mixed Go.Proofs.Tryz.func67 rfl (by decide) rfl rfl ?_
 repeat refine ac rfl ?_
 refine aT rfl rfl rfl h1 rfl rfl rfl ?_
 repeat refine ac rfl ?_
 refine cb rfl rfl rfl ?_ ?_<;>intro h
 ·have := of_decide_eq_true h
  omega
 clear h
 repeat refine ac rfl ?_
 refine cb rfl rfl rfl ?_ ?_<;>intro h
 ·have := of_decide_eq_true h
  omega
 clear h
 repeat refine ac rfl ?_
 refine aT rfl rfl rfl h2 rfl rfl rfl ?_
 repeat refine ac rfl ?_
 refine aq rfl rfl rfl h3 rfl rfl ?_
 repeat refine ac rfl ?_
 refine aZ 12 1 [30,31,32,33,34,35,36,37,38,39,40,41,10] [] (by decide +kernel) rfl ?_
 repeat refine ac rfl ?_
 refine aq rfl rfl rfl k1 rfl rfl ?_
 repeat refine ac rfl ?_
 refine aq rfl rfl rfl k2 rfl rfl ?_
 repeat refine ac rfl ?_
 refine aq rfl rfl rfl k3 rfl rfl ?_
 repeat refine ac rfl ?_
 refine aq rfl rfl rfl k4 rfl rfl ?_
 repeat refine ac rfl ?_
 refine aq rfl rfl rfl k5 rfl rfl ?_
 repeat refine ac rfl ?_
 refine aq rfl rfl rfl k6 rfl rfl ?_
 repeat refine ac rfl ?_
 rw [hwm]
 repeat refine ac rfl ?_
 refine dw [] [9] 6 [6] (by decide +kernel) (by decide +kernel) ?_
 repeat refine ac rfl ?_
 refine aq rfl rfl rfl k7 rfl rfl ?_
 repeat refine ac rfl ?_
 refine aq rfl rfl rfl k8 rfl rfl ?_
 repeat refine ac rfl ?_
 refine aq rfl rfl rfl k9 rfl rfl ?_
 repeat refine ac rfl ?_
 exact aF rfl rfl rfl
open Go.Proofs Go.RowKit Go.Sort
theorem Chg.trans {w w1 w2 : World} {b : Nat} {T : TypeId} {c1 c2 : Array Value} (h1 : Chg w w1 b T c1) (h2 : Chg w1 w2 b T c2) : Chg w w2 b T c2 :=
 ⟨h2.os.trans h1.os,h2.tape.trans h1.tape,h2.output.trans h1.output,Nat.le_trans h1.size h2.size,fun b' hne hb => (h2.other b' hne (Nat.lt_of_lt_of_le hb h1.size)).trans (h1.other b' hne hb),h2.at_⟩
theorem fq (b : Nat) (T : TypeId) : ∀ (vs : List Value) (o : Nat) (w : World) (cur : Array Value),w.heap[b]? = some (.cells cur T (0,0)) →
  ∃ cur',Chg w (w.setCells b o vs) b T cur' ∧ cur'.size = cur.size ∧ ∀ q,cur'[q]? = if o ≤ q ∧ q < o + vs.length ∧ q < cur.size then vs[q - o]? else cur[q]?
 |[],o,w,cur,hh => ⟨cur,⟨rfl,rfl,rfl,Nat.le_refl _,fun _ _ _ => rfl,hh⟩,rfl,fun q => by rw [if_neg (by simp;omega)]⟩
 |v :: r,o,w,cur,hh => by
  have h1 : (w.setCell ⟨b,o,none⟩ v).heap[b]? = some (.cells (cur.setIfInBounds o v) T (0,0)) := by
   show (w.heap.modify b _)[b]? = _
   rw [Array.getElem?_modify,if_pos rfl,hh]
   rfl
  have c1 : Chg w (w.setCell ⟨b,o,none⟩ v) b T (cur.setIfInBounds o v) := by
   refine ⟨rfl,rfl,rfl,?_,fun b' hne _ => ?_,h1⟩
   ·show w.heap.size ≤ (w.heap.modify b _).size
    simp
   ·show (w.heap.modify b _)[b']? = _
    rw [Array.getElem?_modify,if_neg (Ne.symm hne)]
  obtain ⟨cur',c2,hs,hq⟩ := fq b T r (o + 1) (w.setCell ⟨b,o,none⟩ v) _ h1
  refine ⟨cur',c1.trans c2,by rw [hs];simp,fun q => ?_⟩
  rw [hq q]
  simp only [Array.size_setIfInBounds,List.length_cons]
  by_cases g : o = q
  ·subst g
   rw [if_neg (by omega)]
   by_cases g2 : o < cur.size
   ·rw [if_pos ⟨Nat.le_refl _,by omega,g2⟩,Nat.sub_self]
    simp [g2]
   ·rw [if_neg (by omega)]
    simp [g2]
  ·by_cases g1 : o + 1 ≤ q ∧ q < o + 1 + r.length ∧ q < cur.size
   ·rw [if_pos g1,if_pos (by omega),show q - o = (q - (o + 1)) + 1 by omega]
    rfl
   ·rw [if_neg g1,if_neg (by omega),Array.getElem?_setIfInBounds_ne g]
def wL : List Value := [.int .i64 0,.bool false,.slice none 0 0,.bool false,.slice none 0 0,.slice none 0 0,.slice none 0 0]
theorem lT (w : World) (b o c : Nat) (ty : TypeId) (hc : ∀ j,j < 7 → (w.cell? ⟨b,o + j,none⟩).isSome = true) (hf : ∀ j,j < 7 → w.frozen? ⟨b,o + j,none⟩ = false) :
  (Builtin.clear_ #[27] ty #[.slice (some ⟨b,o,none⟩) 1 c]).run Tryz.prog w = .ok (.tuple #[]) (w.setCells b o wL) := by
 rw [wL]
 have hst := run_storeCells_cells (P := Tryz.prog) b o [Value.int .i64 0,.bool false,.slice none 0 0,.bool false,.slice none 0 0,.slice none 0 0,.slice none 0 0] 0 w (by simpa using hc) (by simpa using hf) (by intro v hv;simp at hv;rcases hv with rfl | rfl | rfl | rfl | rfl | rfl | rfl <;> rfl)
 simp only [Nat.add_zero] at hst
 have hzc : (Builtin.zeroCells (Value.agg #[Value.int .i64 0,.bool false,.slice none 0 0,.bool false,.slice none 0 0,.slice none 0 0,.slice none 0 0]).cells 1).toList = [Value.int .i64 0,.bool false,.slice none 0 0,.bool false,.slice none 0 0,.slice none 0 0,.slice none 0 0] := by
  simp [Builtin.zeroCells,Value.cells]
  rfl
 simp only [Builtin.clear_]
 simp [run_underlying Tryz.underlying27,Tryz.zeroValue122,hzc,hst]
set_option maxHeartbeats 4000000 in
set_option maxRecDepth 1000000 in
theorem ng (w : World) (b cap n i j : Nat) (cur : Array Value) (hh : w.heap[b]? = some (.cells cur 122 (0,0))) (hc : cur.size = cap * 7) (hn : n ≤ cap) (hij : j = i + 1) (hj : j ≤ n) (hm : cap ≤ 9223372036854775807) (hone : ∀ q,q < n * 7 → ∃ v,cur[q]? = some v ∧ v.oneCell' = true) :
  Calls Tryz.prog 137 #[.slice (some ⟨b,0,none⟩) n cap,.int .i64 i,.int .i64 j] w fun e w' => e = .returned (.slice (some ⟨b,0,none⟩) (n - 1) cap) ∧ ∃ cur',Chg w w' b 122 cur' ∧ cur'.size = cur.size ∧ (∀ q,q < (n - 1) * 7 → cur'[q]? = if q < i * 7 then cur[q]? else cur[q + 7]?) ∧ ∀ q,q < 7 → cur'[(n - 1) * 7 + q]? = wL[q]? := by
 have mixed : Tryz.prog.follows Departure.mixedOrders = true := by kernel_rfl
 have t27 := Tryz.underlying27
 obtain ⟨i0,hi0,hz1⟩ : ∃ i0,Tryz.prog.info? 122 = some i0 ∧ i0.size = 7 := by
  have h : (Tryz.prog.info? 122).map (fun i => i.size) = some 7 := by kernel_rfl
  exact Option.map_eq_some_iff.1 h
 obtain ⟨news,hnews⟩ : ∃ news,news = (cur.toList.drop (j * 7)).take ((n - j) * 7) := ⟨_,rfl⟩
 have hcl : cur.toList.length = cap * 7 := by rw [Array.length_toList,hc]
 have hlen : news.length = (n - j) * 7 := by rw [hnews,List.length_take,List.length_drop,hcl];omega
 have hget : ∀ t,t < (n - j) * 7 → news[t]? = cur[j * 7 + t]? := fun t ht => by
  rw [hnews,List.getElem?_take,if_pos ht,List.getElem?_drop,Array.getElem?_toList]
 have hcell : ∀ q,w.cell? ⟨b,q,none⟩ = cur[q]? := fun q => by rw [aI hh]
 have hfz : ∀ q,w.frozen? ⟨b,q,none⟩ = false := fun q => frozen_of_row w b _ cur 122 hh
 obtain ⟨A,hA,hsrc⟩ : ∃ A : Addr,(if cap = j then some (⟨b,0,none⟩ : Addr) else some ⟨b,j * 7,none⟩) = some A ∧ Hid (∀ t u,news[t]? = some u → w.drew.cell? (A.add t) = some u) := by
  by_cases h : cap = j
  ·refine ⟨⟨b,0,none⟩,by simp [h],fun t u hu => ?_⟩
   have h0 : news.length = 0 := by rw [hlen];omega
   rw [List.length_eq_zero_iff.1 h0] at hu
   simp at hu
  ·refine ⟨⟨b,j * 7,none⟩,by simp [h],fun t u hu => ?_⟩
   have ht : t < (n - j) * 7 := by
    have := (List.getElem?_eq_some_iff.1 hu).1
    rwa [hlen] at this
   rw [hget t ht] at hu
   rw [Addr.add_lit]
   exact (hcell _).trans hu
 have s1 : Hid (news.length = (n - j) * 7) := hlen
 have s2 : Hid (∀ u ∈ news,u.oneCell' = true) := by
  intro u hu
  obtain ⟨t,ht⟩ := List.getElem?_of_mem hu
  have hlt : t < (n - j) * 7 := by
   have := (List.getElem?_eq_some_iff.1 ht).1
   rwa [hlen] at this
  rw [hget t hlt] at ht
  obtain ⟨v,h1,h2⟩ := hone (j * 7 + t) (by omega)
  rw [h1] at ht
  cases ht
  exact h2
 have s3 : Hid (∀ t,t < news.length → (w.drew.cell? ⟨b,0 + i * 7 + t,none⟩).isSome = true ∧ w.drew.frozen? ⟨b,0 + i * 7 + t,none⟩ = false) := by
  intro t ht
  rw [hlen] at ht
  obtain ⟨v,h1,_⟩ := hone (0 + i * 7 + t) (by omega)
  exact ⟨by show (w.cell? _).isSome = true;rw [hcell,h1];rfl,hfz _⟩
 obtain ⟨W1,hW1⟩ : ∃ W1,W1 = w.drew.setCells b (0 + i * 7) news := ⟨_,rfl⟩
 have hW : Hid (W1 = w.drew.setCells b (0 + i * 7) news) := hW1
 have hic : i ≤ cap := by omega
 have hjc : j ≤ cap := by omega
 have hil : i ≤ n := by omega
 have hne : (((i : Nat) : Int) == ((j : Nat) : Int)) = false := by simp;omega
 have hlt : i < j := by omega
 obtain ⟨cur1,cg1,cz1,cq1⟩ := fq b 122 news (0 + i * 7) w.drew cur hh
 rw [← hW1] at cg1
 have hclr : ∀ ty,(Builtin.clear_ #[27] ty #[.slice (some ⟨b,(i + (n - j)) * 7,none⟩) (n - (i + (n - j))) (cap - (i + (n - j)))]).run Tryz.prog W1 = .ok (.tuple #[]) (W1.setCells b ((i + (n - j)) * 7) wL) := fun ty => by
  rw [show n - (i + (n - j)) = 1 by omega]
  refine lT W1 b _ _ ty (fun t ht => ?_) (fun t ht => frozen_of_row W1 b _ cur1 122 cg1.at_)
  rw [aI cg1.at_]
  have : (i + (n - j)) * 7 + t < cur1.size := by rw [cz1,hc];omega
  simp [this]
 obtain ⟨cur2,cg2,cz2,cq2⟩ := fq b 122 wL ((i + (n - j)) * 7) W1 cur1 cg1.at_
 have hfin : ∃ cur',Chg w (W1.setCells b ((i + (n - j)) * 7) wL) b 122 cur' ∧ cur'.size = cur.size ∧ (∀ q,q < (n - 1) * 7 → cur'[q]? = if q < i * 7 then cur[q]? else cur[q + 7]?) ∧ ∀ q,q < 7 → cur'[(n - 1) * 7 + q]? = wL[q]? := by
  have cg1' : Chg w W1 b 122 cur1 := ⟨cg1.os,cg1.tape,cg1.output,cg1.size,cg1.other,cg1.at_⟩
  refine ⟨cur2,cg1'.trans cg2,cz2.trans cz1,fun q hq => ?_,fun q hq => ?_⟩
  ·rw [cq2 q,if_neg (by omega),cq1 q]
   by_cases g : q < i * 7
   ·rw [if_pos g,if_neg (by omega)]
   ·rw [if_neg g,if_pos (by rw [hlen];omega),hget _ (by omega),show j * 7 + (q - (0 + i * 7)) = q + 7 by omega]
  ·have hz7 : wL.length = 7 := rfl
   rw [cq2,if_pos (by rw [hz7,cz1,hc];omega),show (n - 1) * 7 + q - (i + (n - j)) * 7 = q by omega]
 have hfinH : Hid (∃ cur',Chg w (W1.setCells b ((i + (n - j)) * 7) wL) b 122 cur' ∧ cur'.size = cur.size ∧ (∀ q,q < (n - 1) * 7 → cur'[q]? = if q < i * 7 then cur[q]? else cur[q + 7]?) ∧ ∀ q,q < 7 → cur'[(n - 1) * 7 + q]? = wL[q]?) := hfin
 have hretH : Hid (i + (n - j) = n - 1) := by
  have : i + (n - j) = n - 1 := by omega
  exact this
 have hijH : Hid (j = i + 1) := hij
 clear hW1 hget hnews hlen hcl hone hcell hfz hij cg1 cz1 cq1 cg2 cz2 cq2 hfin
 go_enter Tryz.func137,Tryz.ntmps137
 go_wp2_with fail
 try (any_goals (exfalso;omega))
 go_region_law (refine step_append_room rfl (.tmp 22) (.tmp 25) 27 rfl 122 i0 7 t27 hi0 hz1 b 0 i cap (by simp [Act.eval,Act.put]) A (n - j) (cap - j) news (by simp [Act.eval,Act.put]) s1.out hsrc.out s2.out (by omega) s3.out ?_;rw [← hW.out])
 go_wp2
 go_ret
 refine ⟨?_,hfinH.out⟩
 rw [← hretH.out]
 rfl
theorem w8 : cX Tryz.prog 137 := ⟨_,Go.Proofs.Tryz.func137,by decide,rfl⟩
def nY : List PV := [I 0,.bool false,.nil,.bool false,.nil,.nil,.nil]
theorem nQ (s : St) (k g1 g2 : Nat) (c1 c2 : Option Cont) : (s.setOwn k g1 c1).setOwn k g2 c2 = s.setOwn k g2 c2 := by
 have : ((s.setOwn k g1 c1).setOwn k g2 c2).own = (s.setOwn k g2 c2).own := by
  funext r
  by_cases hr : r = k
  ·subst hr;rw [ag,ag]
  ·rw [ar hr,ar hr,ar hr]
 cases s
 simp only [St.setOwn] at this ⊢
 rw [this]
theorem wO {w : World} {ok : Nat → Prop} {j : Nat} {pv : PV} (h : nY[j]? = some pv) : ∃ v,wL[j]? = some v ∧ v.oneCell' = true ∧ DRep w ok pv v := by
 match j,h with
 |0,h => cases h;exact ⟨_,rfl,rfl,.int _ _⟩
 |1,h => cases h;exact ⟨_,rfl,rfl,.bool _⟩
 |2,h => cases h;exact ⟨_,rfl,rfl,.nil⟩
 |3,h => cases h;exact ⟨_,rfl,rfl,.bool _⟩
 |4,h => cases h;exact ⟨_,rfl,rfl,.nil⟩
 |5,h => cases h;exact ⟨_,rfl,rfl,.nil⟩
 |6,h => cases h;exact ⟨_,rfl,rfl,.nil⟩
 |_ + 7,h => cases h
variable {s : St} {d k g m : Nat} {ty : TypeId} {pos : String} {af : Array Edge} {x y z : Operand} {tys : Array TypeId} {K : St → Prop}
set_option maxRecDepth 20000 in
theorem si {rows : List (List PV)} {i : Nat} (hx : s.ev x = .als k g 0 m) (hm : m = rows.length) (ho : s.own k = (g,some ⟨122,7,rows,1⟩)) (hy : s.ev y = I (i : Nat)) (hz : s.ev z = I ((i + 1 : Nat) : Int)) (hi : i < rows.length)
  (h : K ((s.setOwn k (g + 1) (some ⟨122,7,rows.eraseIdx i,1⟩)).putR d (.als k (g + 1) 0 (rows.length - 1)))) : Sm Tryz.prog lay.get s ⟨some d,.call ⟨.value (.func 137),#[x,y,z],tys⟩,ty,pos,af,none⟩ K := by
 intro C a w Qp hG hs hN
 obtain ⟨γ,hs⟩ := hs
 subst hm
 have hfv := hs.ev (.func 137)
 obtain ⟨vs,hv,hl,_⟩ := hfv.clo_inv
 have hvs : vs = [] := List.eq_nil_of_length_eq_zero (by simpa using hl.symm)
 subst hvs
 have hxr := hs.ev x
 rw [hx] at hxr
 have hyr := hs.ev y
 rw [hy] at hyr
 have hyv := hyr.int_inv
 have hzr := hs.ev z
 rw [hz] at hzr
 have hzv := hzr.int_inv
 have hals := hs.als_at hxr ho
 unfold Oper.wp
 rw [eZ (f := 137) rfl hv w8,Oper.upon_enter]
 simp only [List.map_cons,List.map_nil,List.append_nil,hyv,hzv]
 rcases hals with ⟨h1,_,h3,h4⟩ | ⟨b,cap,cur,h1,h2,h3,h4,h5,h6,h7⟩
 ·omega
 ·rw [h2]
  simp only [Nat.zero_mul]
  have h3 : w.heap[b]? = some (.cells cur 122 (0,0)) := h3
  have hcs : cur.size = cap * 7 := by rw [← show (0 + cap) * 7 = cap * 7 by rw [Nat.zero_add]];exact h6
  obtain ⟨cur0,g1,_,g3,g4,g5⟩ := hs.site_at ho h1 (show 0 < 7 by decide)
  have g1 : w.heap[b]? = some (.cells cur0 122 (0,0)) := g1
  rw [h3] at g1
  simp only [Option.some.injEq,Obj.cells.injEq,and_true] at g1
  subst g1
  have g5 : ∀ (i j : Nat) (row : List PV) (pv : PV),rows[i]? = some row → row[j]? = some pv → ∃ v,cur[i * 7 + j]? = some v ∧ v.oneCell' = true ∧ KRep (ah C γ s w) 1 pv v := g5
  have g4 : ∀ row ∈ rows,row.length = 7 := g4
  have hone : ∀ q,q < rows.length * 7 → ∃ v,cur[q]? = some v ∧ v.oneCell' = true := fun q hq => by
   have hqi : q / 7 < rows.length := (Nat.div_lt_iff_lt_mul (by decide)).2 hq
   have hqj : q % 7 < 7 := Nat.mod_lt _ (by decide)
   have hx1 : rows[q / 7]? = some rows[q / 7] := List.getElem?_eq_getElem hqi
   have hlen := g4 _ (List.mem_of_getElem? hx1)
   have hx2 : (rows[q / 7])[q % 7]? = some ((rows[q / 7])[q % 7]'(by omega)) := List.getElem?_eq_getElem _
   obtain ⟨v,e1,e2,_⟩ := g5 (q / 7) (q % 7) _ _ hx1 hx2
   rw [show q / 7 * 7 + q % 7 = q by omega] at e1
   exact ⟨v,e1,e2⟩
  refine (ng w b cap rows.length i (i + 1) cur h3 hcs (by omega) rfl (by omega) (q9 h5) hone).mono ?_
  rintro e w' ⟨rfl,cur',hchg,hcz,hq1,hq2⟩
  have hle1 : (rows.eraseIdx i).length = rows.length - 1 := List.length_eraseIdx_of_lt hi
  have hle := lA (c' := ⟨122,7,rows.eraseIdx i ++ [nY],1⟩) hs ho h1 h3 hcz rfl rfl (by simp [hle1];omega)
  have hsite : SiteOk (ah C γ (s.setOwn k g (some ⟨122,7,rows.eraseIdx i ++ [nY],1⟩)) (w.setRow b cur')) (some b) ⟨122,7,rows.eraseIdx i ++ [nY],1⟩ := by
   refine ⟨(fun e => by cases e),(fun b' _ hz => by simp only at hz;omega),(fun b' _ hz => by simp only at hz;omega),fun b' hb' _ => ?_⟩
   simp at hb';subst hb'
   refine ⟨cur',setRow_heap w b cur cur' 122 (0,0) h3,show 0 < 7 by decide,by simp only [List.length_append,List.length_singleton,hle1];rw [hcz,hcs];omega,fun row hr => ?_,fun p q row pv e1 e2 => ?_⟩
   ·rcases List.mem_append.1 hr with hr | hr
    ·exact g4 row (List.mem_of_mem_eraseIdx hr)
    ·simp at hr;subst hr;rfl
   ·show ∃ v,cur'[p * 7 + q]? = some v ∧ v.oneCell' = true ∧ KRep (ah C γ (s.setOwn k g (some ⟨122,7,rows.eraseIdx i ++ [nY],1⟩)) (w.setRow b cur')) 1 pv v
    rcases Nat.lt_or_ge p (rows.length - 1) with hp | hp
    ·have e1 : (rows.eraseIdx i ++ [nY])[p]? = some row := e1
     rw [List.getElem?_append_left (by omega),List.getElem?_eraseIdx] at e1
     by_cases hpi : p < i
     ·rw [if_pos hpi] at e1
      have hrl := g4 row (List.mem_of_getElem? e1)
      have hql := (List.getElem?_eq_some_iff.1 e2).1
      obtain ⟨v,f1,f2,f3⟩ := g5 p q row pv e1 e2
      refine ⟨v,?_,f2,f3.mono hle⟩
      rw [hq1 _ (by omega),if_pos (by omega)]
      exact f1
     ·rw [if_neg hpi] at e1
      have hrl := g4 row (List.mem_of_getElem? e1)
      have hql := (List.getElem?_eq_some_iff.1 e2).1
      obtain ⟨v,f1,f2,f3⟩ := g5 (p + 1) q row pv e1 e2
      refine ⟨v,?_,f2,f3.mono hle⟩
      rw [hq1 _ (by omega),if_neg (by omega),show p * 7 + q + 7 = (p + 1) * 7 + q by omega]
      exact f1
    ·have e1 : (rows.eraseIdx i ++ [nY])[p]? = some row := e1
     have hpe : p = rows.length - 1 := by
      have := (List.getElem?_eq_some_iff.1 e1).1
      rw [List.length_append,hle1,List.length_singleton] at this
      omega
     subst hpe
     rw [List.getElem?_append_right (by omega),hle1,Nat.sub_self] at e1
     cases e1
     have hql : q < 7 := (List.getElem?_eq_some_iff.1 e2).1
     obtain ⟨v,f1,f2,f3⟩ := wO (w := _) (ok := _) e2
     exact ⟨v,by rw [hq2 q hql];exact f1,f2,f3⟩
  have hsim := qQ (c' := ⟨122,7,rows.eraseIdx i ++ [nY],1⟩) hs ho h1 h3 hcz hchg rfl rfl (by simp [hle1];omega) hsite
  have hcut := hsim.cutS (n := rows.length - 1) (by rw [ag]) (show 0 < 7 by decide)
  rw [nQ] at hcut
  rw [show (rows.eraseIdx i ++ [nY]).take (rows.length - 1) = rows.eraseIdx i by rw [← hle1,List.take_left]] at hcut
  refine ⟨_,⟨γ,hcut.put (d := some d) hN ?_⟩,h⟩
  refine .als (by simp [ah,ag]) fun _ l2 hl2 => ?_
  simp only [ah,ag,Option.map_some,Option.some.injEq] at hl2
  subst hl2
  exact .inr ⟨b,cap,cur',h1,by simp,hchg.at_,by omega,h5,by rw [hcz];exact h6,by simp;omega⟩
end Go.Pv
set_option maxHeartbeats 2000000
namespace Go.Pv
attribute [local irreducible] PWP POps PQuiet PSem aC au aj ai
open Go.Proofs
theorem uN {L : Lay} {fn : Func} {K : (Nat → Nat × Option Cont) → PV → Prop} {s : St} {l : List PV} {Cd : Prop} {r : PV} (owns : List (Nat × Nat × Cont)) (h : vV L s fn.results.toList = some (l,Cd)) (hc : Cd) (hl : fx l = r) (ho : FitO s owns)
  (hk : ∀ s1 : St,K (s1.over [] owns).own r) : ai L fn (fun s' r => K s'.own r) .ret s := by
 have hk := hk s
 rw [Fit.over (l := []) ho,← hl] at hk
 unfold ai
 exact ⟨l,Cd,h,hc,hk⟩
theorem xw {K : St → Prop} {s : St} {d : Nat} {c a : Operand} {tys : Array TypeId} {ty : TypeId} {pos : String} {af : Array Edge} (hc : s.ev c = .clo 136 []) (hK : K (({ reg := s.reg,own := s.own } : St).putR d (.tup []))) :
  Sm Tryz.prog lay.get s ⟨some d,.call ⟨.value c,#[a],tys⟩,ty,pos,af,none⟩ K := by
 refine bX layOk rfl hc Tryz.func136 rfl (by decide) rfl rfl ?_
 show PWP _ _ _ _ (bF s (([a] : List Operand).map s.ev ++ []))
 repeat refine ac rfl ?_
 exact eP rfl hK
set_option maxRecDepth 20000 in
theorem pK {K : St → Prop} {s : St} {d ge : Nat} {ce : Cont} {x y : Operand} {tys : Array TypeId} {ty : TypeId} {pos : String} {af : Array Edge} (b : BR) (hb : b.Lim) (h12 : b.l.length ≤ 1000) (hM : ∀ s ∈ b.l,s.k.M.length ≤ 1000)
  (hx : s.ev x = .agg (eB b)) (hy : s.ev y = .clo 136 []) (ho : FitO s [(1004,ge,ce)])
  (hK : ∀ (s1 : St) (g : Nat),K (({ reg := s.reg,own := (s1.over [] [(1004,ge,ce),(400,g,⟨122,7,(b.l.map jC).map eS,1⟩)]).own } : St).putR d (.agg (I b.w :: (eR (dA b.a) ++ [.als 400 g 0 ((b.l.map jC).map eS).length]))))) :
  Sm Tryz.prog lay.get s ⟨some d,.call ⟨.value (.func 123),#[x,y],tys⟩,ty,pos,af,none⟩ K := by
 have h1 := pW b.a (hx := hb.a.v) (by decide)
 have hml : (b.l.map eS).length = b.l.length := by simp
 refine bX layOk rfl rfl Tryz.func123 rfl (by decide) rfl rfl ?_
 show PWP _ _ _ _ (bF s (([x,y] : List Operand).map s.ev ++ []))
 rw [show (([x,y] : List Operand).map s.ev ++ ([] : List PV)) = [.agg (eB b),.clo 136 []] by simp [hx,hy]]
 rw [show bF s [.agg (eB b),.clo 136 []] = bF (s.over [] [(1004,ge,ce)]) [.agg (eB b),.clo 136 []] by rw [Fit.over (l := []) ho]]
 obtain ⟨w,ba,l⟩ := b
 simp only at *
 have hll := hb.l.1
 rw [show ofQ ba.val = dA ba from rfl] at h1
 clear hb
 generalize hG : jC = G at *
 generalize dA ba = A0 at *
 (repeat ((fail_if_success (with_reducible refine aP 1 ?_));refine cF rfl ?_))
 refine aB (gD 5) ?_
 refine aZ 6 1 [11,12,13,14,15,16,5] [] (by decide +kernel) rfl ?_
 repeat refine ac rfl ?_
 refine aq rfl rfl rfl h1 rfl rfl ?_
 repeat refine ac rfl ?_
 refine aB (Ghost.nilcell (k := 400) (k0 := 5) (i := 0) (j := 5) (row := I w :: (eR A0 ++ [.nil])) 122 7 1 rfl rfl rfl rfl rfl rfl rfl) ?_
 refine dJ [(1,.clo 136 []),(4,.ptr 4 ((s.own 4).1 + 1) 0 0),(5,.ptr 5 ((s.own 5).1 + 2 + 1) 0 0),(18,.sl (l.map eS)),(19,I (l.map eS).length),(20,I ((0 : Nat) : Int))]
  [(4,(s.own 4).1 + 1,⟨29,6,[I 0 :: (zN ++ [.nil])],2⟩),(5,(s.own 5).1 + 2 + 1,⟨29,6,[I w :: (eR A0 ++ [.als 400 ((s.own 400).1 + 1) 0 0])],2⟩),(400,(s.own 400).1 + 1,⟨122,7,[],1⟩),(1004,ge,ce)]
  ⟨rfl,rfl,rfl,rfl,rfl,rfl,rfl,rfl,rfl,rfl,trivial⟩ ?_
 generalize (s.own 4).1 + 1 = g4
 generalize (s.own 5).1 + 2 + 1 = g5
 generalize (s.own 400).1 + 1 = g400
 rw [hml]
 intro s0
 refine ax (fun i : Nat => i ≤ l.length) (fun i => [(1,.clo 136 []),(4,.ptr 4 g4 0 0),(5,.ptr 5 g5 0 0),(18,.sl (l.map eS)),(19,I l.length),(20,I (i : Nat))])
  (fun i => [(4,g4,⟨29,6,[I 0 :: (zN ++ [.nil])],2⟩),(5,g5,⟨29,6,[I w :: (eR A0 ++ [.als 400 (g400 + i) 0 (((l.take i).map G).map eS).length])],2⟩),(400,g400 + i,⟨122,7,((l.take i).map G).map eS,1⟩),(1004,ge,ce)]) (fun i => l.length - i) 0 (Nat.zero_le _) ⟨rfl,rfl,rfl,rfl,rfl,rfl,rfl,rfl,rfl,rfl,trivial⟩ ?_
 intro i sL hi
 repeat refine ac rfl ?_
 refine ae rfl ?_ ?_<;>intro h
 ·have hlt : i < l.length := by have := of_decide_eq_true h;omega
  clear h
  obtain ⟨x,hx⟩ := aM hlt
  have hxm := List.mem_of_getElem? hx
  have hxl := hll x hxm
  have hMx := hM x hxm
  have hrow := cD (f := G) hx
  have hil : ((l.take i).map G).length ≤ 1000 := by rw [List.length_map,List.length_take];omega
  have hw := f7 i
  have hGx : G x = jC x := by rw [← hG]
  generalize G x = y at *
  generalize (l.take i).map G = B at *
  have e1 := pW x.c (hx := hxl.c.v) (by decide)
  rw [show ofQ x.c.val = dA x.c from rfl] at e1
  have e2 := (kx x.k.S hxl.k.ls).shared_of_fresh
  have e3 : ∀ m ∈ x.k.M,Ret Tryz.prog .shared 171 [.agg (eR m)] (.agg (eR (dA m))) := fun m hm => pW m (hx := (hxl.k.m m hm).v) (by decide)
  have hmm : (x.k.M.map eR).length = x.k.M.length := by simp
  obtain ⟨xx,xc,xS,xM⟩ := x
  simp only [jC] at *
  generalize dA xc = XC at *
  repeat refine ac rfl ?_
  refine bm rfl rfl rfl rfl rfl rfl rfl hx rfl ?_
  (repeat ((fail_if_success (with_reducible refine aP 5 ?_));refine cF rfl ?_))
  refine aB (gD 8) ?_
  refine aZ 11 1 [24,25,26,27,28,29,30,31,32,33,34,8] [] (by decide +kernel) rfl ?_
  repeat refine ac rfl ?_
  refine aq rfl rfl rfl e1 rfl rfl ?_
  repeat refine ac rfl ?_
  refine aq rfl rfl rfl e2 rfl rfl ?_
  repeat refine ac rfl ?_
  refine dJ [(1,.clo 136 []),(4,.ptr 4 g4 0 0),(5,.ptr 5 g5 0 0),(8,.ptr 8 ((sL.own 8).1 + 2 + 1) 0 0),(18,.sl (l.map eS)),(19,I l.length),(20,I (i : Nat)),(37,.sl (xM.map eR)),(38,I (xM.map eR).length),(39,I ((0 : Nat) : Int))]
   [(4,g4,⟨29,6,[I 0 :: (zN ++ [.nil])],2⟩),(5,g5,⟨29,6,[I w :: (eR A0 ++ [.als 400 (g400 + i) 0 (B.map eS).length])],2⟩),(400,g400 + i,⟨122,7,B.map eS,1⟩),(1004,ge,ce),(8,(sL.own 8).1 + 2 + 1,⟨122,7,[I xx :: (eR XC ++ [.sl (xS.map eN),.nil])],2⟩)]
   ⟨rfl,rfl,rfl,rfl,rfl,rfl,rfl,rfl,rfl,rfl,rfl,rfl,rfl,rfl,rfl,trivial⟩ ?_
  generalize (sL.own 8).1 + 2 + 1 = g8
  rw [hmm]
  intro s1
  refine aB (Ghost.nilcell (k := 300) (k0 := 8) (i := 0) (j := 6) (row := I xx :: (eR XC ++ [.sl (xS.map eN),.nil])) 26 4 1 rfl rfl rfl rfl rfl rfl rfl) ?_
  have hg3 : ∃ g3,(s1.own 300).1 + 1 = g3 := ⟨_,rfl⟩
  obtain ⟨g3,hg3⟩ := hg3
  refine ax (fun k : Nat => k ≤ xM.length) (fun k => [(1,.clo 136 []),(4,.ptr 4 g4 0 0),(5,.ptr 5 g5 0 0),(8,.ptr 8 g8 0 0),(18,.sl (l.map eS)),(19,I l.length),(20,I (i : Nat)),(37,.sl (xM.map eR)),(38,I xM.length),(39,I (k : Nat))])
   (fun k => [(4,g4,⟨29,6,[I 0 :: (zN ++ [.nil])],2⟩),(5,g5,⟨29,6,[I w :: (eR A0 ++ [.als 400 (g400 + i) 0 (B.map eS).length])],2⟩),(400,g400 + i,⟨122,7,B.map eS,1⟩),(1004,ge,ce),(8,g8,⟨122,7,[I xx :: (eR XC ++ [.sl (xS.map eN),.als 300 (g3 + k) 0 (((xM.take k).map dA).map eR).length])],2⟩),(300,g3 + k,⟨26,4,((xM.take k).map dA).map eR,1⟩)]) (fun k => xM.length - k) 0 (Nat.zero_le _)
   ⟨rfl,rfl,rfl,rfl,rfl,rfl,rfl,rfl,rfl,rfl,rfl,rfl,rfl,rfl,by rw [← hg3];rfl,by rw [← hg3];rfl,trivial⟩ ?_
  clear hg3
  intro k s2 hk
  repeat refine ac rfl ?_
  refine ae rfl ?_ ?_<;>intro h
  ·have hlk : k < xM.length := by have := of_decide_eq_true h;omega
   clear h
   obtain ⟨m,hm⟩ := aM hlk
   have e4 := e3 m (List.mem_of_getElem? hm)
   have hrk := cD (f := dA) hm
   have hkl : ((xM.take k).map dA).length ≤ 1000 := by rw [List.length_map,List.length_take];omega
   have hwk : IntKind.i64.wrap (((k : Nat) : Int) + 1) = ((k + 1 : Nat) : Int) := by rw [wrap_i64 (by omega) (by omega)];omega
   generalize dA m = n at *
   generalize (xM.take k).map dA = E at *
   repeat refine ac rfl ?_
   refine bm rfl rfl rfl rfl rfl rfl rfl hm rfl ?_
   (repeat ((fail_if_success (with_reducible refine aP 9 ?_));refine cF rfl ?_))
   refine dw [48,300] [8] 9 [5,6,9] (by decide +kernel) (by decide +kernel) ?_
   repeat refine ac rfl ?_
   refine aq rfl rfl rfl e4 rfl rfl ?_
   repeat refine ac rfl ?_
   refine qH rfl rfl rfl (bb 1 rfl rfl rfl rfl rfl rfl rfl rfl rfl rfl rfl (by repeat' constructor) rfl ⟨iL rfl,?_⟩)
   repeat refine ac rfl ?_
   refine qH rfl rfl rfl (bC 1 rfl rfl rfl rfl rfl rfl rfl rfl rfl rfl rfl (by repeat' constructor) (by intro row hr;first | (simp at hr;subst hr;rfl) | (simp at hr;obtain ⟨_,_,rfl⟩ := hr;rfl) | simp at hr) rfl rfl (by simp;omega) (by simp;omega) ⟨iL rfl,?_⟩)
   repeat refine ac rfl ?_
   have hb3 : g3 + (k + 1) = g3 + k + 1 := rfl
   refine ⟨k + 1,hlk,by omega,rfl,rfl,rfl,rfl,rfl,rfl,rfl,rfl,rfl,congrArg I hwk,rfl,rfl,rfl,rfl,?_,?_,trivial⟩
   ·rw [hrk,hb3]
    refine Eq.trans (b := (g8,some (Cont.mk 122 7 [I xx :: (eR XC ++ [.sl (xS.map eN),.als 300 (g3 + k + 1) 0 (E.map eR ++ [eR n]).length])] 2))) rfl ?_
    rw [show (E ++ [n]).map eR = E.map eR ++ [eR n] by rw [List.map_append];rfl]
   ·rw [hrk,hb3,show (E ++ [n]).map eR = E.map eR ++ [eR n] by rw [List.map_append];rfl]
    rfl
  ·have hke : k = xM.length := by have := of_decide_eq_false h;omega
   clear h
   subst hke
   rw [List.take_length]
   refine aB (Ghost.freezeD (k := 300) (k0 := 8) (i := 0) (j := 6) (row := I xx :: (eR XC ++ [.sl (xS.map eN),.als 300 (g3 + xM.length) 0 ((xM.map dA).map eR).length])) rfl rfl rfl rfl rfl rfl rfl rfl) ?_
   ((repeat ((fail_if_success (with_reducible refine aP 11 ?_));refine cF rfl ?_));refine aE 1 ?_)
   refine ac rfl ?_
   refine aR ?_
   refine aV rfl (xw rfl ?_)
   refine aJ ?_
   repeat refine ac rfl ?_
   refine ay (bb 1 rfl rfl rfl rfl rfl rfl rfl rfl rfl rfl rfl (by repeat' constructor) rfl ?_)
   repeat refine ac rfl ?_
   refine ay (bC 1 rfl rfl rfl rfl rfl rfl rfl rfl rfl rfl rfl (by repeat' constructor) (by intro row hr;first | (simp at hr;subst hr;rfl) | simp at hr) rfl rfl (by simp;omega) (by simp;omega) ?_)
   repeat refine ac rfl ?_
   have hb4 : g400 + (i + 1) = g400 + i + 1 := rfl
   refine ⟨i + 1,hlt,by omega,rfl,rfl,rfl,rfl,rfl,congrArg I hw,rfl,?_,?_,rfl,trivial⟩
   ·rw [hrow,hb4]
    refine Eq.trans (b := (g5,some (Cont.mk 29 6 [I w :: (eR A0 ++ [.als 400 (g400 + i + 1) 0 (B.map eS ++ [eS y]).length])] 2))) ?_ ?_
    ·rw [hGx]
     rfl
    ·rw [show (B ++ [y]).map eS = B.map eS ++ [eS y] by rw [List.map_append];rfl]
   ·rw [hrow,hb4,show (B ++ [y]).map eS = B.map eS ++ [eS y] by rw [List.map_append];rfl,hGx]
    rfl
 ·have hie : i = l.length := by have := of_decide_eq_false h;omega
  clear h
  subst hie
  rw [List.take_length]
  repeat refine ac rfl ?_
  exact uN (K := fun o r => K (({ reg := s.reg,own := o } : St).putR d r)) [(1004,ge,ce),(400,g400 + l.length,⟨122,7,(l.map G).map eS,1⟩)] rfl (by repeat' constructor) rfl ⟨rfl,rfl,trivial⟩ (fun s1 => hK s1 _)
def uz (b : BR) (i : Nat) : BR := ⟨b.w,dA b.a,(b.l.map jC).eraseIdx i⟩
set_option maxRecDepth 20000 in
theorem pB (b : BR) (hb : b.Lim) (h0 : aH b ≠ 0) (x : Int) : Ret Tryz.prog .shared 66 [.agg (eB b),I x] (.tup [.agg (eB bZero),I (aH b)]) := by
 have h1 := bh b hb
 suffices hz : Ret Tryz.prog .shared 66 [.agg (eB b),I x] (.tup [.agg zB,I (aH b)]) from hz.weak (WeakL.refl _) (WeakL.tup (.cons dc.agg (WeakL.refl _)))
 generalize aH b = e at *
 refine Ret.of_pwp layOk mixed Go.Proofs.Tryz.func66 rfl (by decide) rfl rfl ?_
 repeat refine ac rfl ?_
 refine aT rfl rfl rfl h1 rfl rfl rfl ?_
 repeat refine ac rfl ?_
 refine ae rfl ?_ ?_<;>intro h
 ·clear h
  repeat refine ac rfl ?_
  exact aF rfl rfl rfl
 ·simp at h
  exact absurd h h0
set_option maxRecDepth 20000 in
theorem nX (b : BR) (hb : b.Lim) (h0 : aH b = 0) (x : Int) (hx : x < 0 ∨ (b.l.length : Int) ≤ x) : Ret Tryz.prog .shared 66 [.agg (eB b),I x] (.tup [.agg (eB bZero),I 6]) := by
 have h1 := bh b hb
 rw [h0] at h1
 have hml : (b.l.map eS).length = b.l.length := by simp
 suffices hz : Ret Tryz.prog .shared 66 [.agg (eB b),I x] (.tup [.agg zB,I 6]) from hz.weak (WeakL.refl _) (WeakL.tup (.cons dc.agg (WeakL.refl _)))
 refine Ret.of_pwp layOk mixed Go.Proofs.Tryz.func66 rfl (by decide) rfl rfl ?_
 repeat refine ac rfl ?_
 refine aT rfl rfl rfl h1 rfl rfl rfl ?_
 repeat refine ac rfl ?_
 refine cb rfl rfl rfl ?_ ?_<;>intro h
 ·clear h
  repeat refine ac rfl ?_
  exact aF rfl rfl rfl
 have g1 := of_decide_eq_false h
 clear h
 repeat refine ac rfl ?_
 refine ae rfl ?_ ?_<;>intro h
 ·clear h
  repeat refine ac rfl ?_
  exact aF rfl rfl rfl
 ·exfalso
  have := of_decide_eq_false h
  simp only [hml] at this
  omega
set_option maxRecDepth 20000 in
theorem qF (b : BR) (hb : b.Lim) (h12 : b.l.length ≤ 1000) (hM : ∀ s ∈ b.l,s.k.M.length ≤ 1000) (h0 : aH b = 0) (i : Nat) (hi : i < b.l.length) : Ret Tryz.prog .shared 66 [.agg (eB b),I i] (.tup [.agg (eB (uz b i)),I 0]) := by
 have h1 := bh b hb
 rw [h0] at h1
 have hml : (b.l.map eS).length = b.l.length := by simp
 have hw := f7 i
 have hrl : ((b.l.map jC).map eS).length = b.l.length := by simp
 refine Ret.of_pwp layOk mixed Go.Proofs.Tryz.func66 rfl (by decide) rfl rfl ?_
 repeat refine ac rfl ?_
 refine aT rfl rfl rfl h1 rfl rfl rfl ?_
 repeat refine ac rfl ?_
 refine ae rfl ?_ ?_<;>intro h
 ·have := of_decide_eq_true h
  simp only [hml] at this
  omega
 clear h
 (repeat ((fail_if_success (with_reducible refine aP 6 ?_));refine cF rfl ?_))
 refine aB (Ghost.move (k := 4) (k' := 1004) (t := 4) rfl rfl rfl rfl) ?_
 ((repeat ((fail_if_success (with_reducible refine aP 6 ?_));refine cF rfl ?_));refine aE 1 ?_)
 refine ac rfl ?_
 refine aR ?_
 refine aV rfl (pK b hb h12 hM rfl rfl ⟨rfl,trivial⟩ fun s1 g => ?_)
 refine aJ ?_
 ((repeat ((fail_if_success (with_reducible refine aP 7 ?_));refine cF rfl ?_));refine aE 5 ?_)
 iterate 5 refine ac rfl ?_
 refine aR ?_
 refine aV rfl (si (i := i) rfl rfl rfl rfl (congrArg I hw) (by rw [hrl];exact hi) ?_)
 refine aJ ?_
 rw [← Go.ChangeMaps.map_eraseIdx]
 have hdl : ((b.l.map jC).map eS).length - 1 = (((b.l.map jC).eraseIdx i).map eS).length := by
  rw [hrl,List.length_map,List.length_eraseIdx_of_lt (by rw [List.length_map];exact hi),List.length_map]
 rw [hdl]
 (repeat ((fail_if_success (with_reducible refine aP 8 ?_));refine cF rfl ?_))
 refine aB (Ghost.freezeD (k := 400) (k0 := 7) (i := 0) (j := 5) (row := I b.w :: (eR (dA b.a) ++ [.als 400 (g + 1) 0 (((b.l.map jC).eraseIdx i).map eS).length])) rfl rfl rfl rfl rfl rfl rfl rfl) ?_
 repeat refine ac rfl ?_
 exact aF rfl rfl rfl
theorem p6 (x y : RR) {p q : Rat} {n m : Nat} [hx : Vq x p n] [hy : Vq y q m] (hn : n ≤ 20000000) (hm : m ≤ 20000000) : Ret Tryz.prog .shared 108 [.agg (eR x),.agg (eR y)] (.agg (eR (ofQ (p + q)))) := by
 have h := mB x y hn hm
 generalize ofQ (p + q) = X at *
 refine Ret.of_pwp layOk mixed Go.Proofs.Tryz.func108 rfl (by decide) rfl rfl ?_
 repeat refine ac rfl ?_
 refine aq rfl rfl rfl h rfl rfl ?_
 repeat refine ac rfl ?_
 exact aF rfl rfl rfl
theorem wC (x y : RR) {p q : Rat} {n m : Nat} [hx : Vq x p n] [hy : Vq y q m] (hn : n ≤ 20000000) (hm : m ≤ 20000000) : Ret Tryz.prog .shared 111 [.agg (eR x),.agg (eR y)] (.agg (eR (ofQ (p * q)))) := by
 have h := s6 x y hn hm
 generalize ofQ (p * q) = X at *
 refine Ret.of_pwp layOk mixed Go.Proofs.Tryz.func111 rfl (by decide) rfl rfl ?_
 repeat refine ac rfl ?_
 refine aq rfl rfl rfl h rfl rfl ?_
 repeat refine ac rfl ?_
 exact aF rfl rfl rfl
theorem za (x y : RR) {p q : Rat} {n m : Nat} [hx : Vq x p n] [hy : Vq y q m] (hn : n ≤ 20000000) (hm : m ≤ 20000000) (h0 : q ≠ 0) : Ret Tryz.prog .shared 138 [.agg (eR x),.agg (eR y)] (.agg (eR (ofQ (p / q)))) := by
 have h := ta x y hn hm h0
 generalize ofQ (p / q) = X at *
 refine Ret.of_pwp layOk mixed Go.Proofs.Tryz.func138 rfl (by decide) rfl rfl ?_
 repeat refine ac rfl ?_
 refine aq rfl rfl rfl h rfl rfl ?_
 repeat refine ac rfl ?_
 exact aF rfl rfl rfl
theorem zM : Ret Tryz.prog .shared 25 [I 0] (.agg (eR (ofQ 0))) := by
 have := dB 0 ⟨by decide,by decide⟩
 rwa [show (((0 : Int) : Rat)) = 0 from rfl] at this
theorem yq {l : List SR} {z t : Rat} {i : Nat} (hi : i < l.length) : (FL l z t)[i]? = some (ofQ (fI l z t i)) := by
 rw [FL,List.getElem?_map,aW (d := dS) hi];rfl
def AY (F : List RR) (n : Nat) : Prop := ∀ x ∈ F,x.le n
structure SameS (s t : SR) : Prop where
 x : s.x = t.x
 c : s.c.val = t.c.val
 S : s.k.S = t.k.S
 n : s.k.M.length = t.k.M.length
 m : ∀ k,k < s.k.M.length → (s.k.M.getD k RR.zero).val = (t.k.M.getD k RR.zero).val
structure SameB (p q : BR) : Prop where
 w : p.w = q.w
 a : p.a.val = q.a.val
 n : p.l.length = q.l.length
 s : ∀ i,i < p.l.length → SameS (p.l.getD i dS) (q.l.getD i dS)
theorem kz {x y : RR} (hx : x.sz 12) (hy : y.sz 12) (h : x.val = y.val) : Ret Tryz.prog .shared 42 [.agg (eR x),.agg (eR y)] (I 0) := by
 have := jl x y (hx := hx.v) (hy := hy.v) (by decide) (by decide)
 rwa [h,Rat.sub_self,show sgn 0 = 0 by decide +kernel] at this
set_option maxRecDepth 20000 in
theorem e_ (a b : BR) (ha : a.Lim) (hb : b.Lim) (h12 : a.l.length ≤ 1000) (hM : ∀ s ∈ a.l,s.k.M.length ≤ 1000 ∧ s.k.S.length ≤ 1000) (h : SameB a b) : Ret Tryz.prog .shared 68 [.agg (eB a),.agg (eB b)] (.bool true) := by
 have c1 := kz ha.a hb.a h.a
 have hml : (a.l.map eS).length = a.l.length := by simp
 have hml2 : (b.l.map eS).length = a.l.length := by simp [h.n]
 have hw := h.w
 have hn := h.n
 have hs := h.s
 have hla := ha.l.1
 have hlb := hb.l.1
 clear h ha hb
 obtain ⟨w,aa,la⟩ := a
 obtain ⟨w2,ab,lb⟩ := b
 simp only at *
 subst hw
 refine Ret.of_pwp layOk mixed Go.Proofs.Tryz.func68 rfl (by decide) rfl rfl ?_
 repeat refine ac rfl ?_
 refine cb rfl rfl rfl ?_ ?_<;>intro h
 ·simp at h
 clear h
 repeat refine ac rfl ?_
 refine aT rfl rfl rfl c1 rfl rfl rfl ?_
 repeat refine ac rfl ?_
 refine ae rfl ?_ ?_<;>intro h
 ·exfalso
  simp only [hml,hml2] at h
  simp at h
 clear h
 repeat refine ac rfl ?_
 refine ax (fun i : Nat => i ≤ la.length) (fun i => [(2,.ptr 2 1 0 0),(3,.ptr 3 1 0 0),(5,I (i : Nat))])
  (fun i => [(2,1,⟨29,6,[eB ⟨w,aa,la⟩],2⟩),(3,1,⟨29,6,[eB ⟨w,ab,lb⟩],2⟩)]) (fun i => la.length - i) 0 (Nat.zero_le _) ⟨rfl,rfl,rfl,rfl,rfl,trivial⟩ ?_
 intro i s hi
 repeat refine ac rfl ?_
 refine ae rfl ?_ ?_<;>intro h
 ·have hlt : i < la.length := by have := of_decide_eq_true h;simp only [hml] at this;omega
  clear h
  have hx := aW (d := dS) hlt
  have hy := aW (l := lb) (i := i) (d := dS) (by omega)
  have hM1 := hM _ (aK hlt)
  have s1 := hs i hlt
  have d1 := kz (hla _ (aK hlt)).c (hlb _ (aK (l := lb) (i := i) (by omega))).c s1.c
  have d2 := uO (la.getD i dS).k.S (by omega)
  have m1 := (hla _ (aK hlt)).k.m
  have m2 := (hlb _ (aK (l := lb) (i := i) (by omega))).k.m
  obtain ⟨e1,-,e3,e4,e5⟩ := s1
  have hw := f7 i
  generalize la.getD i dS = x at *
  generalize lb.getD i dS = y at *
  obtain ⟨xx,xc,xS,xM⟩ := x
  obtain ⟨yx,yc,yS,yM⟩ := y
  simp only at *
  subst e1 e3
  have hmx : (xM.map eR).length = xM.length := by simp
  have hmy : (yM.map eR).length = xM.length := by simp [e4]
  (repeat ((fail_if_success (with_reducible refine aP 6 ?_));refine cF rfl ?_))
  refine vz [(10,6),(11,7),(12,6),(13,7)] (by decide +kernel) (by decide +kernel) ?_
  repeat refine ac rfl ?_
  refine bm rfl rfl rfl rfl rfl rfl rfl hx rfl ?_
  repeat refine ac rfl ?_
  refine bm rfl rfl rfl rfl rfl rfl rfl hy rfl ?_
  repeat refine ac rfl ?_
  refine Bb rfl rfl rfl rfl rfl ?_
  refine Bb rfl rfl rfl rfl rfl ?_
  refine Bc 2 rfl rfl rfl rfl rfl rfl (fun _ => rfl) (by repeat' constructor) rfl rfl rfl rfl ?_
  refine Bc 2 rfl rfl rfl rfl rfl rfl (fun _ => rfl) (by repeat' constructor) rfl rfl rfl rfl ?_
  repeat refine ac rfl ?_
  refine cb rfl rfl rfl ?_ ?_<;>intro h
  ·simp at h
  clear h
  repeat refine ac rfl ?_
  refine aT rfl rfl rfl d1 rfl rfl rfl ?_
  repeat refine ac rfl ?_
  refine aT rfl rfl rfl d2 rfl rfl rfl ?_
  repeat refine ac rfl ?_
  refine ae rfl ?_ ?_<;>intro h
  ·exfalso
   simp only [hmx,hmy] at h
   simp at h
  clear h
  repeat refine ac rfl ?_
  refine dJ [(2,.ptr 2 1 0 0),(3,.ptr 3 1 0 0),(5,I (i : Nat)),(6,.ptr 6 ((s.own 6).1 + 1) 0 0),(7,.ptr 7 ((s.own 7).1 + 1) 0 0),(8,I ((0 : Nat) : Int))]
   [(2,1,⟨29,6,[eB ⟨w,aa,la⟩],2⟩),(3,1,⟨29,6,[eB ⟨w,ab,lb⟩],2⟩),(6,(s.own 6).1 + 1,⟨122,7,[eS ⟨xx,xc,⟨xS,xM⟩⟩],2⟩),(7,(s.own 7).1 + 1,⟨122,7,[eS ⟨xx,yc,⟨xS,yM⟩⟩],2⟩)]
   ⟨rfl,rfl,rfl,rfl,rfl,rfl,rfl,rfl,rfl,rfl,trivial⟩ ?_
  generalize (s.own 6).1 + 1 = g6
  generalize (s.own 7).1 + 1 = g7
  intro s1
  refine ax (fun k : Nat => k ≤ xM.length) (fun k => [(2,.ptr 2 1 0 0),(3,.ptr 3 1 0 0),(5,I (i : Nat)),(6,.ptr 6 g6 0 0),(7,.ptr 7 g7 0 0),(8,I (k : Nat))])
   (fun _ => [(2,1,⟨29,6,[eB ⟨w,aa,la⟩],2⟩),(3,1,⟨29,6,[eB ⟨w,ab,lb⟩],2⟩),(6,g6,⟨122,7,[eS ⟨xx,xc,⟨xS,xM⟩⟩],2⟩),(7,g7,⟨122,7,[eS ⟨xx,yc,⟨xS,yM⟩⟩],2⟩)]) (fun k => xM.length - k) 0 (Nat.zero_le _)
   ⟨rfl,rfl,rfl,rfl,rfl,rfl,rfl,rfl,rfl,rfl,trivial⟩ ?_
  intro k s2 hk
  repeat refine ac rfl ?_
  refine ae rfl ?_ ?_<;>intro h
  ·have hlk : k < xM.length := by have := of_decide_eq_true h;simp only [hmx] at this;omega
   clear h
   have hp := aW (d := RR.zero) hlk
   have hq := aW (l := yM) (i := k) (d := RR.zero) (by omega)
   have d3 := kz (m1 _ (List.mem_of_getElem? hp)) (m2 _ (List.mem_of_getElem? hq)) (e5 k hlk)
   have hwk : IntKind.i64.wrap (((k : Nat) : Int) + 1) = ((k + 1 : Nat) : Int) := by rw [wrap_i64 (by omega) (by omega)];omega
   generalize xM.getD k RR.zero = p at *
   generalize yM.getD k RR.zero = q at *
   repeat refine ac rfl ?_
   refine am 14 [90,91,92,93,94,95,96,97,98,99,100,101,102,103] (by decide +kernel) ?_
   repeat refine ac rfl ?_
   refine bm rfl rfl rfl rfl rfl rfl rfl hp rfl ?_
   repeat refine ac rfl ?_
   refine bm rfl rfl rfl rfl rfl rfl rfl hq rfl ?_
   repeat refine ac rfl ?_
   refine aT rfl rfl rfl d3 rfl rfl rfl ?_
   repeat refine ac rfl ?_
   exact ⟨k + 1,hlk,by omega,rfl,rfl,rfl,rfl,rfl,congrArg I hwk,rfl,rfl,rfl,rfl,trivial⟩
  ·clear h
   repeat refine ac rfl ?_
   exact ⟨i + 1,hlt,by omega,rfl,rfl,congrArg I hw,rfl,rfl,trivial⟩
 ·clear h
  repeat refine ac rfl ?_
  exact bj rfl rfl rfl
def lU (up : RR) (b : BR) : BR := ⟨b.w,dA b.a,b.l.map (wP up)⟩
def nJ (b : BR) (i : Nat) : BR := ⟨b.w,b.a,b.l.eraseIdx i⟩
def gJ (b : BR) (m x : Int) : BR := ⟨b.w + m,ofQ (gu b m x),b.l⟩
set_option maxRecDepth 20000 in
theorem qf (b : BR) (hb : b.Lim) (h12 : b.l.length ≤ 1000) (up : RR) (hu : up.sz 12) (hl : (lU up b).Lim) : Ret Tryz.prog .shared 69 [.agg (eB b),.agg (eR up)] (.tup [.agg (eB (if aH (lU up b) = 0 then lU up b else bZero)),I (aH (lU up b))]) := by
 have h0 := zM
 have h1 := p6 b.a (ofQ 0) (hx := hb.a.v) (by decide) (by decide)
 rw [Rat.add_zero,show ofQ b.a.val = dA b.a from rfl] at h1
 have h2 := jk (lU up b) hl
 have hll := hb.l.1
 have hml : (b.l.map eS).length = b.l.length := by simp
 have hR : lU up b = ⟨b.w,dA b.a,b.l.map (wP up)⟩ := rfl
 have hZ : ∀ e : Int,(if e = 0 then lU up b else bZero) = if e = 0 then ⟨b.w,dA b.a,b.l.map (wP up)⟩ else bZero := fun e => rfl
 generalize aH (lU up b) = e at *
 rw [hR] at h2
 rw [hZ]
 clear hl hR hZ hb
 suffices hz : Ret Tryz.prog .shared 69 [.agg (eB b),.agg (eR up)] (.tup [.agg (if e = 0 then eB ⟨b.w,dA b.a,b.l.map (wP up)⟩ else zB),I e]) from hz.weak (WeakL.refl _) (WeakL.tup (.cons (by
  by_cases he : e = 0
  ·rw [if_pos he,if_pos he];exact .rfl _
  ·rw [if_neg he,if_neg he];exact dc.agg) (WeakL.refl _)))
 obtain ⟨w,ba,l⟩ := b
 simp only at *
 generalize hG : wP up = G at *
 generalize dA ba = A0 at *
 refine Ret.of_pwp layOk mixed Go.Proofs.Tryz.func69 rfl (by decide) rfl rfl ?_
 repeat refine ac rfl ?_
 refine aZ 7 1 [10,11,12,13,14,15,16,6] [] (by decide +kernel) rfl ?_
 repeat refine ac rfl ?_
 refine aq rfl rfl rfl h0 rfl rfl ?_
 repeat refine ac rfl ?_
 refine aq rfl rfl rfl h1 rfl rfl ?_
 repeat refine ac rfl ?_
 refine aB (Ghost.nilcell (k := 400) (k0 := 6) (i := 0) (j := 5) (row := I w :: (eR A0 ++ [.nil])) 122 7 1 rfl rfl rfl rfl rfl rfl rfl) ?_
 refine ax (fun i : Nat => i ≤ l.length) (fun i => [(2,.ptr 2 1 0 0),(3,.ptr 3 1 0 0),(4,.ptr 4 1 0 0),(5,I 0),(6,.ptr 6 1 0 0),(7,I (i : Nat))])
  (fun i => [(2,1,⟨29,6,[eB ⟨w,ba,l⟩],2⟩),(3,1,⟨26,4,[eR up],2⟩),(4,1,⟨29,6,[I 0 :: (zN ++ [.nil])],2⟩),(6,1,⟨29,6,[I w :: (eR A0 ++ [.als 400 (1 + i) 0 (((l.take i).map G).map eS).length])],2⟩),(400,1 + i,⟨122,7,((l.take i).map G).map eS,1⟩)]) (fun i => l.length - i) 0 (Nat.zero_le _) ⟨rfl,rfl,rfl,rfl,rfl,rfl,rfl,rfl,rfl,rfl,rfl,trivial⟩ ?_
 intro i s hi
 repeat refine ac rfl ?_
 refine ae rfl ?_ ?_<;>intro h
 ·have hlt : i < l.length := by have := of_decide_eq_true h;simp only [hml] at this;omega
  clear h
  obtain ⟨x,hx⟩ := aM hlt
  have hxl := hll x (List.mem_of_getElem? hx)
  have hrow := cD (f := G) hx
  have hil : ((l.take i).map G).length ≤ 1000 := by rw [List.length_map,List.length_take];omega
  have hw := f7 i
  have hGx : G x = ⟨x.x,ofQ (x.c.val + up.val),x.k⟩ := by rw [← hG];rfl
  have e1 := p6 x.c up (hx := hxl.c.v) (hy := hu.v) (by decide) (by decide)
  generalize ofQ (x.c.val + up.val) = XC at *
  generalize G x = y at *
  generalize (l.take i).map G = B at *
  obtain ⟨xx,xc,xk⟩ := x
  simp only at *
  repeat refine ac rfl ?_
  refine bm rfl rfl rfl rfl rfl rfl rfl hx rfl ?_
  (repeat ((fail_if_success (with_reducible refine aP 6 ?_));refine cF rfl ?_))
  refine dw [40,400] [6] 14 [11,12,14] (by decide +kernel) (by decide +kernel) ?_
  repeat refine ac rfl ?_
  refine aq rfl rfl rfl e1 rfl rfl ?_
  repeat refine ac rfl ?_
  refine qH rfl rfl rfl (bb 1 rfl rfl rfl rfl rfl rfl rfl rfl rfl rfl rfl (by repeat' constructor) rfl ⟨iL rfl,?_⟩)
  repeat refine ac rfl ?_
  refine qH rfl rfl rfl (bC 1 rfl rfl rfl rfl rfl rfl rfl rfl rfl rfl rfl (by repeat' constructor) (by intro row hr;first | (simp at hr;subst hr;rfl) | (simp at hr;obtain ⟨_,_,rfl⟩ := hr;rfl) | simp at hr) rfl rfl (by simp;omega) (by simp;omega) ⟨iL rfl,?_⟩)
  repeat refine ac rfl ?_
  have hb4 : 1 + (i + 1) = 1 + i + 1 := rfl
  refine ⟨i + 1,hlt,by omega,rfl,rfl,rfl,rfl,rfl,congrArg I hw,rfl,rfl,rfl,?_,?_,trivial⟩
  ·rw [hrow,hb4]
   refine Eq.trans (b := (1,some (Cont.mk 29 6 [I w :: (eR A0 ++ [.als 400 (1 + i + 1) 0 (B.map eS ++ [eS y]).length])] 2))) ?_ ?_
   ·rw [hGx]
    rfl
   ·rw [show (B ++ [y]).map eS = B.map eS ++ [eS y] by rw [List.map_append];rfl]
  ·rw [hrow,hb4,show (B ++ [y]).map eS = B.map eS ++ [eS y] by rw [List.map_append];rfl,hGx]
   rfl
 ·have hie : i = l.length := by have := of_decide_eq_false h;simp only [hml] at this;omega
  clear h
  subst hie
  rw [List.take_length]
  refine aB (Ghost.freezeD (k := 400) (k0 := 6) (i := 0) (j := 5) (row := I w :: (eR A0 ++ [.als 400 (1 + l.length) 0 ((l.map G).map eS).length])) rfl rfl rfl rfl rfl rfl rfl rfl) ?_
  by_cases he : e = 0
  ·subst he
   rw [if_pos rfl]
   repeat refine ac rfl ?_
   refine aT rfl rfl rfl h2 rfl rfl rfl ?_
   repeat refine ac rfl ?_
   exact aF rfl rfl rfl
  ·rw [if_neg he]
   repeat refine ac rfl ?_
   refine aT rfl rfl rfl h2 rfl rfl rfl ?_
   repeat refine ac rfl ?_
   refine ae rfl ?_ ?_<;>intro h
   ·clear h
    repeat refine ac rfl ?_
    exact aF rfl rfl rfl
   ·simp at h
    exact absurd h he
set_option maxRecDepth 20000 in
theorem lW (b : BR) (x : Int) (hx : x < 0 ∨ (b.l.length : Int) ≤ x) : Ret Tryz.prog .shared 70 [.agg (eB b),I x] (.tup [.agg (eB bZero),I 6]) := by
 have hml : (b.l.map eS).length = b.l.length := by simp
 suffices hz : Ret Tryz.prog .shared 70 [.agg (eB b),I x] (.tup [.agg zB,I 6]) from hz.weak (WeakL.refl _) (WeakL.tup (.cons dc.agg (WeakL.refl _)))
 refine Ret.of_pwp layOk mixed Go.Proofs.Tryz.func70 rfl (by decide) rfl rfl ?_
 repeat refine ac rfl ?_
 refine cb rfl rfl rfl ?_ ?_<;>intro h
 ·clear h
  repeat refine ac rfl ?_
  exact aF rfl rfl rfl
 have g1 := of_decide_eq_false h
 clear h
 repeat refine ac rfl ?_
 refine ae rfl ?_ ?_<;>intro h
 ·clear h
  repeat refine ac rfl ?_
  exact aF rfl rfl rfl
 ·exfalso
  have := of_decide_eq_false h
  simp only [hml] at this
  omega
set_option maxRecDepth 20000 in
theorem pe (b : BR) (h12 : b.l.length ≤ 1000) (i : Nat) (hi : i < b.l.length) : Ret Tryz.prog .shared 70 [.agg (eB b),I i] (.tup [.agg (eB (nJ b i)),I 0]) := by
 have hml : (b.l.map eS).length = b.l.length := by simp
 have hw := f7 i
 rw [nJ,List.eraseIdx_eq_take_drop_succ]
 have hib : i < b.l.length := hi
 obtain ⟨w,ba,l⟩ := b
 simp only at *
 refine Ret.of_pwp layOk mixed Go.Proofs.Tryz.func70 rfl (by decide) rfl rfl ?_
 repeat refine ac rfl ?_
 refine ae rfl ?_ ?_<;>intro h
 ·exfalso
  have := of_decide_eq_true h
  simp only [hml] at this
  omega
 clear h
 repeat refine ac rfl ?_
 refine dw [18] [6] 13 [0,5,11,13] (by decide +kernel) (by decide +kernel) ?_
 refine qH rfl rfl rfl (bb 1 rfl rfl rfl rfl rfl rfl rfl rfl rfl rfl rfl (by repeat' constructor) rfl ⟨iL rfl,?_⟩)
 repeat refine ac rfl ?_
 refine bx rfl rfl (nE (n := ((i : Nat) : Int)) rfl rfl rfl rfl rfl (by omega) (Int.ofNat_le.2 (Nat.le_of_lt hib)) (fun _ => rfl)) ?_
 rw [Int.toNat_natCast]
 repeat refine ac rfl ?_
 refine qH rfl rfl rfl (bC 1 rfl rfl rfl rfl rfl rfl rfl rfl rfl rfl rfl (by repeat' constructor) (by intro row hr;obtain ⟨q,_,rfl⟩ := List.mem_map.1 hr;rfl) rfl rfl (by simp;omega) (by simp;omega) ⟨iL rfl,?_⟩)
 repeat refine ac rfl ?_
 rw [hw]
 refine bx rfl rfl (zE (n := ((i + 1 : Nat) : Int)) rfl rfl rfl rfl rfl (by omega) (Int.ofNat_le.2 hib) (fun _ => rfl)) ?_
 rw [Int.toNat_natCast]
 repeat refine ac rfl ?_
 refine qH rfl rfl rfl (bC 1 rfl rfl rfl rfl rfl rfl rfl rfl rfl rfl rfl (by repeat' constructor) (by intro row hr;obtain ⟨q,_,rfl⟩ := List.mem_map.1 hr;rfl) rfl rfl (by simp;omega) (by simp;omega) ⟨iL rfl,?_⟩)
 (repeat ((fail_if_success (with_reducible refine aP 5 ?_));refine cF rfl ?_))
 refine aB (Ghost.freezeD (k := 18) (k0 := 6) (i := 0) (j := 5) (rows := [] ++ (l.take i).map eS ++ (l.drop (i + 1)).map eS) (row := I w :: (eR ba ++ [.als 18 3 0 ([] ++ (l.take i).map eS ++ (l.drop (i + 1)).map eS).length])) rfl rfl rfl rfl rfl rfl rfl rfl) ?_
 rw [List.nil_append,← List.map_append]
 repeat refine ac rfl ?_
 exact aF rfl rfl rfl
set_option maxRecDepth 20000 in
theorem vH (b : BR) (m x : Int) (hf : (m < 0 ∨ 1000000000 < m) ∨ (x < -1000000 ∨ 1000000 < x)) : Ret Tryz.prog .shared 71 [.agg (eB b),I m,I x] (.tup [.agg (eB bZero),I 2]) := by
 suffices hz : Ret Tryz.prog .shared 71 [.agg (eB b),I m,I x] (.tup [.agg zB,I 2]) from hz.weak (WeakL.refl _) (WeakL.tup (.cons dc.agg (WeakL.refl _)))
 refine Ret.of_pwp layOk mixed Go.Proofs.Tryz.func71 rfl (by decide) rfl rfl ?_
 repeat refine ac rfl ?_
 refine cb rfl rfl rfl ?_ ?_<;>intro h
 ·clear h
  repeat refine ac rfl ?_
  exact aF rfl rfl rfl
 have g1 := of_decide_eq_false h
 clear h
 repeat refine ac rfl ?_
 refine cb rfl rfl rfl ?_ ?_<;>intro h
 ·clear h
  repeat refine ac rfl ?_
  exact aF rfl rfl rfl
 have g2 := of_decide_eq_false h
 clear h
 repeat refine ac rfl ?_
 refine cb rfl rfl rfl ?_ ?_<;>intro h
 ·clear h
  repeat refine ac rfl ?_
  exact aF rfl rfl rfl
 have g3 := of_decide_eq_false h
 clear h
 repeat refine ac rfl ?_
 refine ae rfl ?_ ?_<;>intro h
 ·clear h
  repeat refine ac rfl ?_
  exact aF rfl rfl rfl
 ·exfalso
  have := of_decide_eq_false h
  omega
set_option maxRecDepth 20000 in
theorem xW (b : BR) (hb : b.Lim) (hw : 1 ≤ b.w ∧ b.w ≤ 1000000000) (m x : Int) (hm : 0 ≤ m ∧ m ≤ 1000000000) (hx : -1000000 ≤ x ∧ x ≤ 1000000) (hl : (gJ b m x).Lim) :
  Ret Tryz.prog .shared 71 [.agg (eB b),I m,I x] (.tup [.agg (eB (if aH (gJ b m x) = 0 then gJ b m x else bZero)),I (aH (gJ b m x))]) := by
 have zw : Zb b.w := aN hb.w.1 hb.w.2
 have zm : Zb m := aN (by omega) (by omega)
 have zx : Zb x := aN (by omega) (by omega)
 have zs : Zb (b.w + m) := aN (by omega) (by omega)
 have k1 := dB b.w ⟨by omega,by omega⟩
 have k2 := wC (ofQ (b.w : Rat)) b.a (hy := hb.a.v) (by decide) (by decide)
 have v2 : Vq (ofQ ((b.w : Rat) * b.a.val)) ((b.w : Rat) * b.a.val) (4 + 13) := Vq.ofQ (h := @HQ.mul _ _ 4 13 HQ.int hb.a.v.hq)
 have k3 := dB m ⟨by omega,by omega⟩
 have k4 := dB x ⟨by omega,by omega⟩
 have k5 := wC (ofQ (m : Rat)) (ofQ (x : Rat)) (by decide) (by decide)
 have v5 : Vq (ofQ ((m : Rat) * (x : Rat))) ((m : Rat) * (x : Rat)) (4 + 4) := Vq.ofQ (h := @HQ.mul _ _ 4 4 HQ.int HQ.int)
 have k6 := p6 (ofQ ((b.w : Rat) * b.a.val)) (ofQ ((m : Rat) * (x : Rat))) (hx := v2) (hy := v5) (by decide) (by decide)
 have v6 : Vq (ofQ ((b.w : Rat) * b.a.val + (m : Rat) * (x : Rat))) ((b.w : Rat) * b.a.val + (m : Rat) * (x : Rat)) (4 + 13 + (4 + 4) + 1) := Vq.ofQ (h := @HQ.add _ _ (4 + 13) (4 + 4) (b8 v2) (b8 v5))
 have k7 := dB (b.w + m) ⟨by omega,by omega⟩
 have k8 := za (ofQ ((b.w : Rat) * b.a.val + (m : Rat) * (x : Rat))) (ofQ ((b.w + m : Int) : Rat)) (hx := v6) (by decide) (by decide) (by
  have : (b.w + m : Int) ≠ 0 := by omega
  exact_mod_cast this)
 rw [show ((b.w : Rat) * b.a.val + (m : Rat) * (x : Rat)) / ((b.w + m : Int) : Rat) = gu b m x from rfl] at k8
 have hwm : IntKind.i64.wrap (b.w + m) = b.w + m := wrap_i64 (by omega) (by omega)
 have k9 := jk (gJ b m x) hl
 have hR : gJ b m x = ⟨b.w + m,ofQ (gu b m x),b.l⟩ := rfl
 have hZ : ∀ e : Int,(if e = 0 then gJ b m x else bZero) = if e = 0 then ⟨b.w + m,ofQ (gu b m x),b.l⟩ else bZero := fun e => rfl
 generalize aH (gJ b m x) = e at *
 rw [hR] at k9
 rw [hZ]
 suffices hz : Ret Tryz.prog .shared 71 [.agg (eB b),I m,I x] (.tup [.agg (if e = 0 then eB ⟨b.w + m,ofQ (gu b m x),b.l⟩ else zB),I e]) from hz.weak (WeakL.refl _) (WeakL.tup (.cons (by
  by_cases he : e = 0
  ·rw [if_pos he,if_pos he];exact .rfl _
  ·rw [if_neg he,if_neg he];exact dc.agg) (WeakL.refl _)))
 clear hl hR hZ zw zm zx zs v2 v5 v6 hb
 generalize ofQ (gu b m x) = A9 at *
 generalize ofQ ((b.w : Rat) * b.a.val + (m : Rat) * (x : Rat)) = A6 at *
 generalize ofQ ((b.w : Rat) * b.a.val) = A2 at *
 generalize ofQ ((m : Rat) * (x : Rat)) = A5 at *
 generalize ofQ ((b.w + m : Int) : Rat) = A7 at *
 generalize ofQ (b.w : Rat) = A1 at *
 generalize ofQ (m : Rat) = A3 at *
 generalize ofQ (x : Rat) = A4 at *
 obtain ⟨w,ba,l⟩ := b
 simp only at *
 refine Ret.of_pwp layOk mixed Go.Proofs.Tryz.func71 rfl (by decide) rfl rfl ?_
 repeat refine ac rfl ?_
 refine cb rfl rfl rfl ?_ ?_<;>intro h
 ·have := of_decide_eq_true h
  omega
 clear h
 repeat refine ac rfl ?_
 refine cb rfl rfl rfl ?_ ?_<;>intro h
 ·have := of_decide_eq_true h
  omega
 clear h
 repeat refine ac rfl ?_
 refine cb rfl rfl rfl ?_ ?_<;>intro h
 ·have := of_decide_eq_true h
  omega
 clear h
 repeat refine ac rfl ?_
 refine ae rfl ?_ ?_<;>intro h
 ·have := of_decide_eq_true h
  omega
 clear h
 repeat refine ac rfl ?_
 rw [hwm]
 repeat refine ac rfl ?_
 refine aZ 12 1 [32,33,34,35,36,37,38,39,40,41,42,43,9] [] (by decide +kernel) rfl ?_
 repeat refine ac rfl ?_
 refine aq rfl rfl rfl k1 rfl rfl ?_
 repeat refine ac rfl ?_
 refine aq rfl rfl rfl k2 rfl rfl ?_
 repeat refine ac rfl ?_
 refine aq rfl rfl rfl k3 rfl rfl ?_
 repeat refine ac rfl ?_
 refine aq rfl rfl rfl k4 rfl rfl ?_
 repeat refine ac rfl ?_
 refine aq rfl rfl rfl k5 rfl rfl ?_
 repeat refine ac rfl ?_
 refine aq rfl rfl rfl k6 rfl rfl ?_
 repeat refine ac rfl ?_
 refine dw [] [8] 6 [6] (by decide +kernel) (by decide +kernel) ?_
 repeat refine ac rfl ?_
 refine aq rfl rfl rfl k7 rfl rfl ?_
 repeat refine ac rfl ?_
 refine aq rfl rfl rfl k8 rfl rfl ?_
 repeat refine ac rfl ?_
 refine aT rfl rfl rfl k9 rfl rfl rfl ?_
 repeat refine ac rfl ?_
 by_cases he : e = 0
 ·subst he
  rw [if_pos rfl]
  repeat refine ac rfl ?_
  exact aF rfl rfl rfl
 ·rw [if_neg he]
  refine ae rfl ?_ ?_<;>intro h
  ·clear h
   repeat refine ac rfl ?_
   exact aF rfl rfl rfl
  ·simp at h
   exact absurd h he
def zZ (b : BR) : Prop := ∀ z t,¬ (bd b).Bal z t
inductive Said (b : BR) : Prop
 |none (r : AR) (e : Int) (he : e = 12 ∨ e = 13) (hr : gz b r = true) (hv : Va r r.z.val r.t.val 4 4) (hn : zZ b) (h1 : fv b = ⟨zA,[],r,e⟩) (h2 : fk b = ([],e))
 |loose (z t : Rat) (hn : tR b) (hb : (bd b).Bal z t) (hz : HQ z 24000) (ht : HQ t 20000) (h1 : fv b = ⟨zA,[],zA,14⟩) (h2 : fk b = (FL b.l z t,0))
 |one (z t : Rat) (hn : tR b) (hb : (bd b).Bal z t) (hz : HQ z 24000) (ht : HQ t 20000) (hu : ∀ z' t',(bd b).Bal z' t' → z' = z ∧ t' = t) (h1 : fv b = ⟨⟨ofQ z,ofQ t⟩,FL b.l z t,zA,0⟩) (h2 : fk b = (FL b.l z t,0))
structure Raised (u : Rat) (b c : BR) : Prop where
 n : c.l.length = b.l.length
 x : ∀ i,i < b.l.length → (c.l.getD i dS).x = (b.l.getD i dS).x
 S : ∀ i,i < b.l.length → (c.l.getD i dS).k.S = (b.l.getD i dS).k.S
 m : ∀ i,i < b.l.length → (c.l.getD i dS).k.m = (b.l.getD i dS).k.m
 cc : ∀ i,i < b.l.length → (c.l.getD i dS).c.val = (b.l.getD i dS).c.val + u
 w : c.w = b.w
 a : c.a.val = b.a.val
variable {u : Rat} {b c : BR}
theorem Raised.s (h : Raised u b c) {i : Nat} (hi : i < b.l.length) : (c.l.getD i dS).k.s = (b.l.getD i dS).k.s := by
 funext k
 rw [CR.s,CR.s,h.S i hi]
theorem Raised.f (h : Raised u b c) {z t : Rat} {i : Nat} (hi : i < b.l.length) : (bd c).f (z - u) t i = (bd b).f z t i := by
 have e : (bd c).y (z - u) t i = (bd b).y z t i := by
  show (c.l.getD i dS).c.val + (z - u + t * ((c.l.getD i dS).x : Rat)) = (b.l.getD i dS).c.val + (z + t * ((b.l.getD i dS).x : Rat))
  rw [h.cc i hi,h.x i hi]
  grind
 show fG (c.l.getD i dS).k.S.length (c.l.getD i dS).k.s (c.l.getD i dS).k.m ((bd c).y (z - u) t i) = fG (b.l.getD i dS).k.S.length (b.l.getD i dS).k.s (b.l.getD i dS).k.m ((bd b).y z t i)
 rw [e,h.S i hi,h.s hi,h.m i hi]
theorem Raised.FL (h : Raised u b c) {z t : Rat} : FL c.l (z - u) t = FL b.l z t := by
 refine List.ext_getElem? fun i => ?_
 by_cases hi : i < b.l.length
 ·rw [yq hi,yq (show i < c.l.length by rw [h.n];exact hi)]
  exact congrArg (fun q => some (ofQ q)) (h.f hi)
 ·rw [List.getElem?_eq_none (by rw [Go.Pv.FL,List.length_map,h.n];omega),List.getElem?_eq_none (by rw [Go.Pv.FL,List.length_map];omega)]
inductive SaidUp (u : Rat) (b c : BR) : Prop
 |none (r : AR) (e : Int) (he : e = 12 ∨ e = 13) (hv : Va r r.z.val r.t.val 4 4) (h1 : fv b = ⟨zA,[],r,e⟩) (h2 : fk b = ([],e)) (h3 : fv c = ⟨zA,[],r,e⟩) (h4 : fk c = ([],e))
 |loose (F : List RR) (hF : AY F 1000000) (hl : F.length ≤ 1000) (h1 : fv b = ⟨zA,[],zA,14⟩) (h2 : fk b = (F,0)) (h3 : fv c = ⟨zA,[],zA,14⟩) (h4 : fk c = (F,0))
 |one (z t : Rat) (F : List RR) (hF : AY F 1000000) (hl : F.length ≤ 1000) (hz : HQ z 24000) (ht : HQ t 20000) (h1 : fv b = ⟨⟨ofQ z,ofQ t⟩,F,zA,0⟩) (h2 : fk b = (F,0)) (h3 : fv c = ⟨⟨ofQ (z - u),ofQ t⟩,F,zA,0⟩) (h4 : fk c = (F,0))
end Go.Pv
set_option maxHeartbeats 2000000
namespace Go.Pv
attribute [local irreducible] PWP POps PQuiet PSem aC au aj ai
open Go.Proofs
theorem oC {f : SR → SR} {l : List SR} {i : Nat} (hi : i < l.length) : (l.map f).getD i dS = f (l.getD i dS) := by
 rw [List.getD_eq_getElem?_getD,List.getElem?_map,aW (d := dS) hi];rfl
theorem iK (x : RR) : (dA x).val = x.val := ofQ_val _
theorem mf {q : Rat} {n m : Nat} (h : hq q n) (hm : n ≤ m) : (ofQ q).sz m := by
 have := c7 h
 exact ⟨by omega,by omega⟩
theorem wI {up : RR} {b : BR} (hb : ArgB b) (h : eT b = true) (hu : up.sz 3) : (tM up b).Lim := by
 rw [eT,Bool.and_eq_true,nR,rF] at h
 refine ⟨hb.w,mf (lC h.2) (by decide),fun s hs => ?_,?_⟩
 ·obtain ⟨x,hx,rfl⟩ := List.mem_map.1 hs
  obtain ⟨h1,h2,h3,h4⟩ := h.1.2 x hx
  obtain ⟨d1,d2⟩ := hb.data x hx
  refine ⟨d1,?_,d2,fun m hm => ?_,?_,?_⟩
  ·have hc : HQ ((dA x.c).val + up.val) 9 := by rw [iK];exact @HQ.add _ _ 4 4 ⟨lC h3⟩ ⟨lC hu⟩
   exact mf hc.ok (by decide)
  ·obtain ⟨y,hy,rfl⟩ := List.mem_map.1 (show m ∈ x.k.M.map dA from hm)
   exact mf (lC (h4 y hy)) (by decide)
  ·show x.k.S.length ≤ _
   omega
  ·show (x.k.M.map dA).length ≤ _
   rw [List.length_map];omega
 ·show (b.l.map _).length ≤ _
  rw [List.length_map]
  have := h.1.1
  omega
theorem tj (x : SR) : SameS x x := ⟨rfl,rfl,rfl,rfl,fun _ _ => rfl⟩
theorem qZ (M : List RR) (k : Nat) : ((M.map dA).getD k RR.zero).val = (M.getD k RR.zero).val := by
 rw [List.getD_eq_getElem?_getD,List.getD_eq_getElem?_getD,List.getElem?_map]
 cases M[k]? with
 |none => rfl
 |some x => exact iK x
theorem rA (x : SR) : SameS (jC x) x := ⟨rfl,iK _,rfl,List.length_map _,fun k _ => qZ _ k⟩
theorem x5 (up : RR) (x : SR) : SameS (wP up (jC x)) (wP up x) := by
 refine ⟨rfl,?_,rfl,List.length_map _,fun k _ => qZ _ k⟩
 show (ofQ ((dA x.c).val + up.val)).val = (ofQ (x.c.val + up.val)).val
 rw [iK]
theorem ll {w : Int} {a1 a2 : RR} {L : List SR} {f g : SR → SR} (ha : a1.val = a2.val) (h : ∀ x ∈ L,SameS (f x) (g x)) : SameB ⟨w,a1,L.map f⟩ ⟨w,a2,L.map g⟩ := by
 refine ⟨rfl,ha,by simp,fun i hi => ?_⟩
 have hi : i < L.length := by rw [← List.length_map f];exact hi
 show SameS ((L.map f).getD i dS) ((L.map g).getD i dS)
 rw [oC hi,oC hi]
 exact h _ (aK hi)
theorem SameS.mm {s t : SR} (h : SameS s t) : s.k.m = t.k.m := by
 funext k
 by_cases hk : k < s.k.M.length
 ·exact h.m k hk
 ·show (s.k.M.getD k RR.zero).val = (t.k.M.getD k RR.zero).val
  rw [List.getD_eq_getElem?_getD,List.getD_eq_getElem?_getD,List.getElem?_eq_none (by omega),List.getElem?_eq_none (by have := h.n;omega)]
theorem ol {c d : CR} (hS : c.S = d.S) (hm : c.m = d.m) : ∀ n k,bP c k n = bP d k n := by
 intro n
 induction n with
 |zero => intro k;rfl
 |succ n ih =>
  intro k
  have hmk : (c.M.getD k RR.zero).val = (d.M.getD k RR.zero).val := congrFun hm k
  have e : cd c k = cd d k := by rw [cd,cd,hS,hmk]
  rw [bP,bP,e,ih]
theorem oh {c d : CR} (hS : c.S = d.S) (hn : c.M.length = d.M.length) (hm : c.m = d.m) : bp c = bp d := by
 rw [bp,bp,ol hS hm,hS,hn]
theorem tz {s t : SR} (h : SameS s t) : dL s = dL t := by rw [dL,dL,h.x,h.c,oh h.S h.n h.mm]
theorem oA {l m : List SR} (hn : l.length = m.length) (h : ∀ i,i < l.length → SameS (l.getD i dS) (m.getD i dS)) : bK dL l = bK dL m := by
 induction l generalizing m with
 |nil => cases m with
  |nil => rfl
  |cons y m => cases hn
 |cons x l ih => cases m with
  |nil => cases hn
  |cons y m =>
   have h0 : SameS x y := h 0 (by simp)
   rw [bK,bK,tz h0,ih (by simpa using hn) fun i hi => h (i + 1) (by simp;omega)]
theorem kt {p q : BR} (h : SameB p q) : aH p = aH q := by
 rw [aH,aH,h.w,h.a,br,br,h.n,oA h.n h.s]
structure ShB (b : BR) : Prop where
 w : i64 b.w
 data : qJ b.l
 a : b.a.sz 3
 l : mX b.l 10 4
theorem jZ {b : BR} (hb : ArgB b) (h : eT b = true) : ShB b := by
 rw [eT,Bool.and_eq_true,nR,rF] at h
 exact ⟨hb.w,hb.data,h.2,h.1⟩
theorem q8 {x : RR} (h : x.sz 3) : (dA x).sz 12 := mf (lC h) (by decide)
theorem uh {b : BR} (h : ShB b) {x : SR} (hx : x ∈ b.l) : (jC x).Lim := by
 obtain ⟨h1,h2,h3,h4⟩ := h.l.2 x hx
 obtain ⟨d1,d2⟩ := h.data x hx
 refine ⟨d1,q8 h3,d2,fun m hm => ?_,?_,?_⟩
 ·obtain ⟨y,hy,rfl⟩ := List.mem_map.1 (show m ∈ x.k.M.map dA from hm)
  exact q8 (h4 y hy)
 ·show x.k.S.length ≤ _
  omega
 ·show (x.k.M.map dA).length ≤ _
  rw [List.length_map];omega
theorem d_ {b : BR} (h : ShB b) : b.Lim := ⟨h.w,h.a.mono (by decide),qr h.data h.l (by decide) (by decide)⟩
theorem nt {b : BR} (h : ShB b) {f : SR → SR} (hf : ∀ x ∈ b.l,(f x).Lim) : fE (b.l.map f) := by
 refine ⟨fun s hs => ?_,by rw [List.length_map];have := h.l.1;omega⟩
 obtain ⟨x,hx,rfl⟩ := List.mem_map.1 hs
 exact hf x hx
theorem ry {b : BR} (h : ShB b) {up : RR} (hu : up.sz 3) : (lU up b).Lim := by
 refine ⟨h.w,q8 h.a,nt h fun x hx => ?_⟩
 have hl := (d_ h).l.1 x hx
 have h3 := (h.l.2 x hx).2.2.1
 exact ⟨hl.x,mf (@HQ.add _ _ 4 4 ⟨lC h3⟩ ⟨lC hu⟩).ok (by decide),hl.k⟩
theorem wW {b : BR} (h : ShB b) (hw : 1 ≤ b.w ∧ b.w ≤ 1000000000) {m x : Int} (hm : 0 ≤ m ∧ m ≤ 1000000000) (hx : -1000000 ≤ x ∧ x ≤ 1000000) : (kg b m x).Lim ∧ (gJ b m x).Lim := by
 have ha : (ofQ (gu b m x)).sz 12 := mf (wT hw h.a hm hx) (by decide)
 have hw : i64 (b.w + m) := ⟨by omega,by omega⟩
 exact ⟨⟨hw,ha,nt h fun x hx => uh h hx⟩,⟨hw,ha,(d_ h).l⟩⟩
theorem oo {b : BR} (h : ShB b) (i : Nat) : (uz b i).Lim ∧ (nJ b i).Lim := by
 have h1 := nt h fun x hx => uh h hx
 have h2 := (d_ h).l
 refine ⟨⟨h.w,q8 h.a,fun s hs => h1.1 s (List.mem_of_mem_eraseIdx hs),?_⟩,⟨h.w,h.a.mono (by decide),fun s hs => h2.1 s (List.mem_of_mem_eraseIdx hs),?_⟩⟩
 ·exact Nat.le_trans (List.length_eraseIdx_le _ _) h1.2
 ·exact Nat.le_trans (List.length_eraseIdx_le _ _) h2.2
theorem fb : bZero.Lim := ⟨⟨by decide,by decide⟩,⟨Nat.zero_le _,Nat.zero_le _⟩,⟨(fun s hs => by cases hs),Nat.zero_le _⟩⟩
theorem jy : SameB bZero bZero := ⟨rfl,rfl,rfl,fun _ _ => tj _⟩
theorem su (b : BR) (i : Nat) : SameB (uz b i) (nJ b i) := by
 have := ll (w := b.w) (a1 := dA b.a) (a2 := b.a) (L := b.l.eraseIdx i) (f := jC) (g := fun x => x) (iK _) fun x _ => rA x
 rw [List.map_id',Go.ChangeMaps.map_eraseIdx] at this
 exact this
theorem n8 (b : BR) (m x : Int) : SameB (kg b m x) (gJ b m x) := by
 have := ll (w := b.w + m) (a1 := ofQ (gu b m x)) (a2 := ofQ (gu b m x)) (L := b.l) (f := jC) (g := fun x => x) rfl fun x _ => rA x
 rw [List.map_id'] at this
 exact this
theorem rN (up : RR) (b : BR) : SameB (tM up b) (lU up b) := ll rfl fun x _ => x5 up x
theorem mu {p q : BR} (h : SameB p q) (hp : p.Lim) (hq : q.Lim) (h12 : p.l.length ≤ 1000) (hM : ∀ s ∈ p.l,s.k.M.length ≤ 1000 ∧ s.k.S.length ≤ 1000) (e : Int) : Ret Tryz.prog .shared 68 [.agg (eB (if e = 0 then p else bZero)),.agg (eB (if e = 0 then q else bZero))] (.bool true) := by
 by_cases he : e = 0
 ·rw [if_pos he,if_pos he]
  exact e_ p q hp hq h12 hM h
 ·rw [if_neg he,if_neg he]
  exact e_ bZero bZero fb fb (Nat.zero_le _) (fun s hs => by cases hs) jy
theorem wM : Ret Tryz.prog .shared 68 [.agg (eB bZero),.agg zB] (.bool true) :=
 (e_ bZero bZero fb fb (Nat.zero_le _) (fun s hs => by cases hs) jy).weak (.cons (.rfl _) (.cons dc.agg .nil)) (.rfl _)
theorem mU : Ret Tryz.prog .shared 68 [.agg (eB bZero),.agg (eB bZero)] (.bool true) := e_ bZero bZero fb fb (Nat.zero_le _) (fun s hs => by cases hs) jy
def AH (up : RR) (i m x : Int) : List PV := eR up ++ [I i,I m,I x]
theorem dec_Ch {c : PV} (h : argW lay.get 110 c) : ∃ (up : RR) (i m x : Int),c = .agg (AH up i m x) ∧ i64 i ∧ i64 m ∧ i64 x := by
 obtain ⟨cs,rfl,h⟩ : ∃ cs,c = .agg cs ∧ iZ lay.get 12 110 cs := h
 obtain ⟨parts,rfl,hl,hp⟩ := ju h rfl
 match parts,hl,hp with
 |[p0,p1,p2,p3],_,hp =>
  obtain ⟨up,rfl⟩ := qT (hp 0 _ p0 rfl rfl)
  obtain ⟨i,rfl,hi⟩ := f_ (hp 1 _ p1 rfl rfl)
  obtain ⟨m,rfl,hm⟩ := f_ (hp 2 _ p2 rfl rfl)
  obtain ⟨x,rfl,hx⟩ := f_ (hp 3 _ p3 rfl rfl)
  exact ⟨up,i,m,x,by simp [AH,eN],hi,hm,hx⟩
structure Both (f g : FuncId) (args : List PV) : Prop where
 run : ∃ (p q : BR) (e : Int),Ret Tryz.prog .shared f args (.tup [.agg (eB p),I e]) ∧ Ret Tryz.prog .shared g args (.tup [.agg (eB q),I e]) ∧ Ret Tryz.prog .shared 68 [.agg (eB p),.agg (eB q)] (.bool true)
theorem qn {b : BR} (h : ShB b) : b.l.length ≤ 1000 ∧ ∀ s ∈ b.l,s.k.M.length ≤ 1000 ∧ s.k.S.length ≤ 1000 :=
 ⟨by have := h.l.1;omega,fun s hs => by have := h.l.2 s hs;exact ⟨by have := this.2.1;omega,by have := this.1;omega⟩⟩
theorem w7 {b : BR} (hb : ArgB b) (hm : eT b = true) (h0 : aH b = 0) {up : RR} (hu : up.sz 3) : Both 43 69 [.agg (eB b),.agg (eR up)] := by
 have h := jZ hb hm
 obtain ⟨l1,l2⟩ := qn h
 have p1 := vL b (d_ h) l1 (fun s hs => (l2 s hs).1) (wI hb hm hu) h0 (hu.mono (by decide))
 have p2 := qf b (d_ h) l1 up (hu.mono (by decide)) (ry h hu)
 have p3 := mu (rN up b) (wI hb hm hu) (ry h hu) (by show (b.l.map _).length ≤ _;rw [List.length_map];exact l1) (fun s hs => by
  obtain ⟨x,hx,rfl⟩ := List.mem_map.1 hs
  refine ⟨?_,(l2 x hx).2⟩
  show (x.k.M.map dA).length ≤ _
  rw [List.length_map];exact (l2 x hx).1) (aH (tM up b))
 rw [← kt (rN up b)] at p2
 exact ⟨_,_,_,p1,p2,p3⟩
theorem m9 {b : BR} (hb : ArgB b) (hm : eT b = true) (h0 : aH b = 0) (i : Int) : Both 66 70 [.agg (eB b),I i] := by
 have h := jZ hb hm
 obtain ⟨l1,l2⟩ := qn h
 by_cases hx : i < 0 ∨ (b.l.length : Int) ≤ i
 ·exact ⟨_,_,_,nX b (d_ h) h0 i hx,lW b i hx,mU⟩
 ·obtain ⟨n,rfl⟩ : ∃ n : Nat,i = n := ⟨i.toNat,by omega⟩
  have hn : n < b.l.length := by omega
  refine ⟨_,_,_,qF b (d_ h) l1 (fun s hs => (l2 s hs).1) h0 n hn,pe b l1 n hn,?_⟩
  refine e_ _ _ (oo h n).1 (oo h n).2 ?_ (fun s hs => ?_) (su b n)
  ·refine Nat.le_trans (List.length_eraseIdx_le _ _) ?_
   rw [List.length_map];exact l1
  ·obtain ⟨x,hx,rfl⟩ := List.mem_map.1 (List.mem_of_mem_eraseIdx hs)
   refine ⟨?_,(l2 x hx).2⟩
   show (x.k.M.map dA).length ≤ _
   rw [List.length_map];exact (l2 x hx).1
theorem ud {b : BR} (hb : ArgB b) (hm : eT b = true) (h0 : aH b = 0) (m x : Int) : Both 67 71 [.agg (eB b),I m,I x] := by
 have h := jZ hb hm
 obtain ⟨l1,l2⟩ := qn h
 by_cases hf : (m < 0 ∨ 1000000000 < m) ∨ (x < -1000000 ∨ 1000000 < x)
 ·exact ⟨_,_,_,wV b (d_ h) h0 m x hf,vH b m x hf,mU⟩
 ·have hm' : 0 ≤ m ∧ m ≤ 1000000000 := by omega
  have hx' : -1000000 ≤ x ∧ x ≤ 1000000 := by omega
  obtain ⟨a1,a2⟩ := wW h (kF h0) hm' hx'
  have p1 := yY b (d_ h) l1 (fun s hs => (l2 s hs).1) h0 m x hm' hx' a1
  have p2 := xW b (d_ h) (kF h0) m x hm' hx' a2
  have p3 := mu (n8 b m x) a1 a2 (by show (b.l.map _).length ≤ _;rw [List.length_map];exact l1) (fun s hs => by
   obtain ⟨x,hx,rfl⟩ := List.mem_map.1 hs
   refine ⟨?_,(l2 x hx).2⟩
   show (x.k.M.map dA).length ≤ _
   rw [List.length_map];exact (l2 x hx).1) (aH (kg b m x))
  rw [← kt (n8 b m x)] at p2
  exact ⟨_,_,_,p1,p2,p3⟩
set_option maxRecDepth 20000 in
theorem changes_law (b : BR) (hb : ArgB b) (up : RR) (i m x : Int) : Ret Tryz.prog .shared 14 [.agg (eB b),.agg (AH up i m x)] (.bool true) := by
 have aw := r5
 have h1 := uV b hb.len
 have h2 := fu up 3 (by decide)
 have hsh := jZ hb
 have hup := fun (hm : eT b = true) h0 (hu : up.sz 3) => w7 hb hm h0 hu
 have hwo := fun (hm : eT b = true) h0 => m9 hb hm h0 i
 have had := fun (hm : eT b = true) h0 => ud hb hm h0 m x
 have hsm := (nR (x := up) (n := 3)).1
 generalize eT b = x1 at *
 generalize n0 up 3 = x2 at *
 refine Ret.of_pwp layOk mixed Go.Proofs.Tryz.func14 rfl (by decide) rfl rfl ?_
 repeat refine ac rfl ?_
 refine aT rfl rfl rfl aw rfl rfl rfl ?_
 repeat refine ac rfl ?_
 refine aT rfl rfl rfl h1 rfl rfl rfl ?_
 cases x1
 ·repeat refine ac rfl ?_
  exact bj rfl rfl rfl
 repeat refine ac rfl ?_
 refine aT rfl rfl rfl h2 rfl rfl rfl ?_
 cases x2
 ·repeat refine ac rfl ?_
  exact bj rfl rfl rfl
 repeat refine ac rfl ?_
 have hs := hsh rfl
 have hl := d_ hs
 have c0 := jk b hl
 by_cases h0 : aH b = 0
 rotate_left
 ·have r1 := sY b hl h0 up
  have r2 := pB b hl h0 i
  have r3 := wU b hl h0 m x
  have z1 := wM
  generalize aH b = e at *
  refine aq rfl rfl rfl r1 rfl rfl ?_
  repeat refine ac rfl ?_
  refine aq rfl rfl rfl r2 rfl rfl ?_
  repeat refine ac rfl ?_
  refine aq rfl rfl rfl r3 rfl rfl ?_
  repeat refine ac rfl ?_
  refine aT rfl rfl rfl c0 rfl rfl rfl ?_
  repeat refine ac rfl ?_
  refine ae rfl ?_ ?_<;>intro h
  rotate_left
  ·simp at h
   exact absurd h h0
  clear h
  repeat refine ac rfl ?_
  refine cb rfl rfl rfl ?_ ?_<;>intro h
  rotate_left
  ·simp at h
  clear h
  repeat refine ac rfl ?_
  refine cb rfl rfl rfl ?_ ?_<;>intro h
  rotate_left
  ·simp at h
  clear h
  repeat refine ac rfl ?_
  refine cb rfl rfl rfl ?_ ?_<;>intro h
  rotate_left
  ·simp at h
  clear h
  repeat refine ac rfl ?_
  refine aT rfl rfl rfl z1 rfl rfl rfl ?_
  repeat refine ac rfl ?_
  refine aT rfl rfl rfl z1 rfl rfl rfl ?_
  repeat refine ac rfl ?_
  refine aT rfl rfl rfl z1 rfl rfl rfl ?_
  repeat refine ac rfl ?_
  exact bj rfl rfl rfl
 rw [h0] at c0
 obtain ⟨p1,q1,e1,a1,b1,c1⟩ := (hup rfl h0 (hsm rfl)).run
 obtain ⟨p2,q2,e2,a2,b2,c2⟩ := (hwo rfl h0).run
 obtain ⟨p3,q3,e3,a3,b3,c3⟩ := (had rfl h0).run
 refine aq rfl rfl rfl a1 rfl rfl ?_
 repeat refine ac rfl ?_
 refine aq rfl rfl rfl a2 rfl rfl ?_
 repeat refine ac rfl ?_
 refine aq rfl rfl rfl a3 rfl rfl ?_
 repeat refine ac rfl ?_
 refine aT rfl rfl rfl c0 rfl rfl rfl ?_
 repeat refine ac rfl ?_
 refine aq rfl rfl rfl b1 rfl rfl ?_
 repeat refine ac rfl ?_
 refine aq rfl rfl rfl b2 rfl rfl ?_
 repeat refine ac rfl ?_
 refine aq rfl rfl rfl b3 rfl rfl ?_
 repeat refine ac rfl ?_
 refine cb rfl rfl rfl ?_ ?_<;>intro h
 rotate_left
 ·simp at h
 clear h
 repeat refine ac rfl ?_
 refine cb rfl rfl rfl ?_ ?_<;>intro h
 rotate_left
 ·simp at h
 clear h
 repeat refine ac rfl ?_
 refine cb rfl rfl rfl ?_ ?_<;>intro h
 rotate_left
 ·simp at h
 clear h
 repeat refine ac rfl ?_
 refine aT rfl rfl rfl c1 rfl rfl rfl ?_
 repeat refine ac rfl ?_
 refine aT rfl rfl rfl c2 rfl rfl rfl ?_
 repeat refine ac rfl ?_
 refine aT rfl rfl rfl c3 rfl rfl rfl ?_
 repeat refine ac rfl ?_
 exact bj rfl rfl rfl
end Go.Pv
