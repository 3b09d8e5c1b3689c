/- Texts of one hand, gathered: PvFz, FuE, FuF, FuG, FuH. -/
import Derived.Test.YtjejnoojnndnlaaGreatDa6
set_option linter.unusedSectionVars false
set_option linter.unusedSimpArgs false
set_option linter.unusedVariables false
set_option linter.unnecessarySimpa false
namespace Go.Pv
open Go.RowKit
variable [Globs]
variable {s : St}
theorem Ghost.freezeD {k gk k0 g0 i j n sz : Nat} {T : TypeId} {rows : List (List PV)} {c0 : Cont} {row : List PV} (hk : Nat.beq k0 k = false) (ho : s.own k = (gk,some ⟨T,sz,rows,1⟩)) (h0 : s.own k0 = (g0,some c0)) (hkind : c0.kind = 2) (hrow : c0.rows[i]? = some row) (hj : row[j]? = some (.als k gk 0 n)) (hz0 : Nat.blt 0 c0.sz = true) (hn : n = rows.length) :
  Ghost s ((s.setOwn k (gk + 1) none).setOwn k0 g0 (some ⟨c0.ty,c0.sz,c0.rows.set i (row.set j (.sl rows)),2⟩)) := by
 intro C a w hX ⟨γ,h⟩
 subst hn
 have hne : k0 ≠ k := fun e => by subst e;simp at hk
 obtain ⟨h1,hle,-⟩ := h.drop hX ho
 have ho1 : (s.setOwn k (gk + 1) none).own k0 = (g0,some c0) := by rw [aq hne];exact h0
 have hsite := h.sites k0 c0 (by rw [h0])
 have hlt := (List.getElem?_eq_some_iff.1 hrow).1
 have hlt2 := (List.getElem?_eq_some_iff.1 hj).1
 have hfr : ∀ v,Rep (ae C γ s w) (.als k gk 0 rows.length) v → Rep (ae C γ (s.setOwn k (gk + 1) none) w) (.sl rows) v := by
  intro v hp
  refine .d ?_
  rcases h.als_at hp ho with ⟨q1,_,q3,q4⟩ | ⟨b,cap,cur,q1,q2,q3,q4,q5,q6,q7⟩
  ·have : rows = [] := (h.sites k _ (by rw [ho])).emp q1
   rw [this,q4]
   exact .sl0 _ _
  ·obtain ⟨cur',g1,g2,g3,g4,g5⟩ := h.site_at ho q1 (h.cells_sz ho q1 q3 q6)
   have hb : (ae C γ (s.setOwn k (gk + 1) none) w).ok b := by
    have hbase := h.base k _ b (by rw [ho]) q1
    refine ⟨hbase.2,fun hx => ?_,fun k' c' hc' hb' => ?_⟩
    ·have := hX b hx;omega
    ·by_cases hk' : k' = k
     ·subst hk';rw [ag] at hc';cases hc'
     ·rw [aq hk'] at hc'
      exact hk' (h.inj k' k c' _ b hc' (by rw [ho]) hb' q1)
   rw [q2]
   simp only [Nat.zero_mul]
   refine .sl rows b 0 cap sz (fun i j => cur'.getD (i * sz + j) undef) hb g2 q4 g4 (fun i j row pv e1 e2 => ?_) (fun i j row pv e1 e2 => ?_)
   ·obtain ⟨u,f1,f2,_⟩ := g5 i j row pv e1 e2
    have g1 : w.heap[b]? = some (.cells cur' T (0,0)) := g1
    show w.cell? _ = _ ∧ _
    rw [aN g1,Nat.zero_add,f1]
    simp [f1,f2]
   ·obtain ⟨u,f1,_,f3⟩ := g5 i j row pv e1 e2
    have hu : cur'.getD (i * sz + j) undef = u := by simp [f1]
    simp only [hu]
    exact hle.drep f3
 have he := i8 (C := C) (γ := γ) (w := w) (c1 := ⟨c0.ty,c0.sz,c0.rows.set i (row.set j (.sl rows)),2⟩) ho1 rfl rfl (by simp)
 have hother : ∀ k',k' ≠ k0 → ((s.setOwn k (gk + 1) none).setOwn k0 g0 (some ⟨c0.ty,c0.sz,c0.rows.set i (row.set j (.sl rows)),2⟩)).own k' = (s.setOwn k (gk + 1) none).own k' := fun k' hk' => aq hk'
 have hsome : ∀ k' c',(((s.setOwn k (gk + 1) none).setOwn k0 g0 (some ⟨c0.ty,c0.sz,c0.rows.set i (row.set j (.sl rows)),2⟩)).own k').2 = some c' → ∃ c'',((s.setOwn k (gk + 1) none).own k').2 = some c'' := by
  intro k' c' hc'
  by_cases hk' : k' = k0
  ·subst hk';exact ⟨c0,by rw [ho1]⟩
  ·rw [hother k' hk'] at hc';exact ⟨c',hc'⟩
 refine ⟨γ,h1.defers,h1.size,fun r => by rw [he];exact h1.regs r,fun k' c' hc' => ?_,fun k1 k2 c1 c2 b e1 e2 e3 e4 => ?_,fun k' c' b e1 e2 => ?_,h1.below,h1.top,fun c v hk => by rw [he];exact h1.kept c v hk⟩
 ·rw [he]
  by_cases hk' : k' = k0
  ·subst hk'
   rw [ag] at hc'
   have hc' := Option.some.inj hc'
   subst hc'
   have hz0 : 0 < c0.sz := by simpa using hz0
   refine ⟨fun hb => ?_,(fun b _ hz => by simp only at hz;omega),(fun b _ hz => by simp only at hz;omega),fun b hb _ => ?_⟩
   ·have := hsite.emp hb
    rw [this] at hrow;simp at hrow
   ·obtain ⟨cur,f1,f2,f3,f4,f5⟩ := hsite.at_ b hb hz0
    refine ⟨cur,f1,f2,by simpa using f3,fun r hr => ?_,fun i' j' row1 pv1 e1 e2 => ?_⟩
    ·rcases List.mem_or_eq_of_mem_set hr with hr | rfl
     ·exact f4 r hr
     ·simpa using f4 row (List.mem_of_getElem? hrow)
    ·by_cases hi : i' = i
     ·subst hi
      rw [List.getElem?_set_self hlt] at e1
      have e1 := Option.some.inj e1
      subst e1
      by_cases hjj : j' = j
      ·subst hjj
       rw [List.getElem?_set_self hlt2] at e2
       have e2 := Option.some.inj e2
       subst e2
       obtain ⟨v,u1,u2,u3⟩ := f5 i' j' row _ hrow hj
       rw [hkind] at u3
       exact ⟨v,u1,u2,hfr v u3⟩
      ·rw [List.getElem?_set_ne (Ne.symm hjj)] at e2
       obtain ⟨v,u1,u2,u3⟩ := f5 i' j' row pv1 hrow e2
       rw [hkind] at u3
       exact ⟨v,u1,u2,Rep.mono hle u3⟩
     ·rw [List.getElem?_set_ne (Ne.symm hi)] at e1
      obtain ⟨v,u1,u2,u3⟩ := f5 i' j' row1 pv1 e1 e2
      rw [hkind] at u3
      exact ⟨v,u1,u2,Rep.mono hle u3⟩
  ·rw [hother k' hk'] at hc'
   exact h1.sites k' c' hc'
 ·obtain ⟨d,hd⟩ := hsome k1 c1 e1
  obtain ⟨d',hd'⟩ := hsome k2 c2 e2
  exact h1.inj k1 k2 d d' b hd hd' e3 e4
 ·obtain ⟨d,hd⟩ := hsome k' c' e1
  exact h1.base k' d b hd e2
end Go.Pv
set_option maxHeartbeats 2000000
namespace Go.Pv
attribute [local irreducible] PWP POps PQuiet PSem au ar aj ai
open Go.Proofs
set_option maxRecDepth 20000 in
theorem qI (l : List Int) (hl : l.length ≤ 1000000000) : Ret Tryz.prog .fresh 172 [.sl (l.map eN)] (.sl (l.map eN)) := by
 refine Ret.of_pwp layOk mixed Go.Proofs.Tryz.func172 rfl (by decide) rfl rfl ?_
 ((repeat ((fail_if_success (with_reducible refine aM 1 ?_));refine cF rfl ?_));refine ay 1 ?_)
 refine aa rfl ?_
 refine aS ?_
 refine aI rfl (nt layOk rfl rfl rfl (fun h0 => ?_) ?_)
 ·rw [h0]
  refine aD ?_
  (repeat ((fail_if_success (with_reducible refine iO ?_));refine cF rfl ?_))
  refine aB (Ghost.nilfs (t := 2) rfl) ?_
  repeat refine aa rfl ?_
  exact pg rfl rfl rfl trivial rfl
 ·refine aD ?_
  repeat refine aa rfl ?_
  refine ax (br 0 rfl rfl rfl rfl rfl rfl rfl rfl rfl rfl rfl (by repeat' constructor) rfl ?_)
  repeat refine aa rfl ?_
  refine ax (bP 1 rfl rfl rfl rfl rfl rfl rfl rfl rfl rfl rfl (by repeat' constructor) (by intro row hr;obtain ⟨p,_,rfl⟩ := List.mem_map.1 hr;rfl) rfl rfl (by simp;omega) (by simp;omega) ?_)
  (repeat ((fail_if_success (with_reducible refine iO ?_));refine cF rfl ?_))
  refine aB (Ghost.takeF (k := 5) (t := 2) l rfl rfl rfl rfl (fun _ => rfl)) ?_
  repeat refine aa rfl ?_
  exact pg rfl rfl rfl (by repeat' constructor) rfl
def lF (x : RR) : RR := ofQ x.val
def Aq (x : SR) : SR := ⟨x.x,lF x.c,⟨x.k.S,x.k.M.map lF⟩⟩
def BI (ch : SR → SR) (b : BR) : BR := ⟨b.w,lF b.a,b.l.map fun x => ch (Aq x)⟩
theorem tE {L : Lay} {fn : Func} {K : (Nat → Nat × Option Cont) → PV → Prop} {s : St} (owns : List (Nat × Nat × Cont)) (h : fn.results.toList = []) (ho : FitO s owns) (hk : ∀ s1 : St,K (s1.over [] owns).own (.tup [])) : ai L fn (fun s' r => K s'.own r) .normal s := by
 have hk := hk s
 rw [Fit.over (l := []) ho] at hk
 exact b_ h hk
structure ChOk (f : FuncId) (caps : List PV) (ch : SR → SR) (x : SR) : Prop where
 run : ∀ {K : St → Prop} {s : St} {d g g4 g5 g400 : Nat} {c4 c5 c400 : Cont} {c a : Operand} {tys : Array TypeId} {ty : TypeId} {pos : String} {af : Array Edge},s.ev c = .clo f caps → s.ev a = .ptr 8 g 0 0 →
 FitO s [(8,g,⟨122,7,[eS x],2⟩),(4,g4,c4),(5,g5,c5),(400,g400,c400)] →
 (∀ s1 : St,K (({ reg := s.reg,own := (s1.over [] [(8,g,⟨122,7,[eS (ch x)],2⟩),(4,g4,c4),(5,g5,c5),(400,g400,c400)]).own } : St).putR d (.tup []))) →
 Sm Tryz.prog lay.get s ⟨some d,.call ⟨.value c,#[a],tys⟩,ty,pos,af,none⟩ K
theorem wQ (up : RR) (hu : up.sz 12) (x : SR) (hx : x.c.sz 100) : ChOk 124 [.dref (eR up) 0] (fun x => ⟨x.x,ofQ (x.c.val + up.val),x.k⟩) x := by
 constructor
 intro K s d g g4 g5 g400 c4 c5 c400 c a tys ty pos af hc ha ho hK
 have h1 := dw x.c up (hx := hx.v) (hy := hu.v) (by decide) (by decide)
 refine bB layOk rfl hc Tryz.func124 rfl (by decide) rfl rfl ?_
 show PWP _ _ _ _ (aP s (([a] : List Operand).map s.ev ++ [.dref (eR up) 0]))
 rw [show (([a] : List Operand).map s.ev ++ [PV.dref (eR up) 0]) = [.ptr 8 g 0 0,.dref (eR up) 0] by simp [ha]]
 rw [show aP s [.ptr 8 g 0 0,.dref (eR up) 0] = aP (s.over [] [(8,g,⟨122,7,[eS x],2⟩),(4,g4,c4),(5,g5,c5),(400,g400,c400)]) [.ptr 8 g 0 0,.dref (eR up) 0] by rw [Fit.over (l := []) ho]]
 try dsimp only at hK
 generalize ofQ (x.c.val + up.val) = X at *
 obtain ⟨xx,xc,xk⟩ := x
 simp only at *
 repeat refine aa rfl ?_
 refine lP [] [8] 9 [9] (by decide +kernel) (by decide +kernel) ?_
 repeat refine aa rfl ?_
 refine ap rfl rfl rfl h1 rfl rfl ?_
 repeat refine aa rfl ?_
 exact tE (K := fun o r => K (({ reg := s.reg,own := o } : St).putR d r)) [(8,g,⟨122,7,[eS ⟨xx,X,xk⟩],2⟩),(4,g4,c4),(5,g5,c5),(400,g400,c400)] rfl ⟨rfl,rfl,rfl,rfl,trivial⟩ hK
theorem ic {α β : Type} {f : α → β} {l : List α} {k : Nat} {x : α} (h : l[k]? = some x) : (l.take (k + 1)).map f = (l.take k).map f ++ [f x] := by rw [cd h,List.map_append];rfl
set_option maxRecDepth 20000 in
theorem qK (b : BR) (hb : b.Lim) (h12 : b.l.length ≤ 1000) (hM : ∀ s ∈ b.l,s.k.M.length ≤ 1000) (cl : FuncId) (caps : List PV) (ch : SR → SR) (hch : ∀ s ∈ b.l,ChOk cl caps ch (Aq s)) :
  Ret Tryz.prog .shared 123 [.agg (eB b),.clo cl caps] (.agg (eB (BI ch b))) := by
 have h1 := yB b.a (hx := hb.a.v) (by decide)
 have hml : (b.l.map eS).length = b.l.length := by simp
 obtain ⟨w,ba,l⟩ := b
 simp only at *
 have hll := hb.l.1
 rw [show ofQ ba.val = lF ba from rfl] at h1
 clear hb
 generalize hG : (fun x => ch (Aq x)) = G
 rw [BI,hG]
 generalize lF ba = A0 at *
 refine Ret.of_pwp layOk mixed Go.Proofs.Tryz.func123 rfl (by decide) rfl rfl ?_
 repeat refine aa rfl ?_
 refine bj 6 1 [11,12,13,14,15,16,5] [] (by decide +kernel) rfl ?_
 repeat refine aa rfl ?_
 refine ap rfl rfl rfl h1 rfl rfl ?_
 repeat refine aa rfl ?_
 refine aB (Ghost.nilcell (k := 400) (k0 := 5) (i := 0) (j := 5) (row := I w :: (eR A0 ++ [.nil])) 122 7 1 rfl rfl rfl rfl rfl rfl rfl) ?_
 refine ao (fun i : Nat => i ≤ l.length) (fun i => [(1,.clo cl caps),(4,.ptr 4 1 0 0),(5,.ptr 5 1 0 0),(18,.sl (l.map eS)),(19,I l.length),(20,I (i : Nat))])
  (fun i => [(4,1,⟨29,6,[I 0 :: (zN ++ [.nil])],2⟩),(5,1,⟨29,6,[I w :: (eR A0 ++ [.als 400 (1 + i) 0 (((l.take i).map G).map eS).length])],2⟩),(400,1 + i,⟨122,7,((l.take i).map G).map eS,1⟩)]) (fun i => l.length - i) 0 (Nat.zero_le _) ⟨rfl,rfl,rfl,rfl,by rw [← hml];rfl,rfl,rfl,rfl,rfl,trivial⟩ ?_
 intro i s hi
 repeat refine aa rfl ?_
 refine ab rfl ?_ ?_<;>intro h
 ·have hlt : i < l.length := by have := of_decide_eq_true h;omega
  clear h
  obtain ⟨x,hx⟩ := aH hlt
  have hxm := List.mem_of_getElem? hx
  have hxl := hll x hxm
  have hcx := hch x hxm
  have hMx := hM x hxm
  have hrow := ic (f := G) hx
  have hil : ((l.take i).map G).length ≤ 1000 := by rw [List.length_map,List.length_take];omega
  have hw := jx i
  have hGx : G x = ch (Aq x) := by rw [← hG]
  generalize G x = y at *
  generalize (l.take i).map G = B at *
  have e1 := yB x.c (hx := hxl.c.v) (by decide)
  rw [show ofQ x.c.val = lF x.c from rfl] at e1
  have e2 := (qI x.k.S hxl.k.ls).shared_of_fresh
  have e3 : ∀ m ∈ x.k.M,Ret Tryz.prog .shared 171 [.agg (eR m)] (.agg (eR (lF m))) := fun m hm => yB m (hx := (hxl.k.m m hm).v) (by decide)
  have hmm : (x.k.M.map eR).length = x.k.M.length := by simp
  obtain ⟨xx,xc,xS,xM⟩ := x
  simp only [Aq] at *
  generalize lF xc = XC at *
  repeat refine aa rfl ?_
  refine bO rfl rfl rfl rfl rfl rfl rfl hx rfl ?_
  (repeat ((fail_if_success (with_reducible refine aM 5 ?_));refine cF rfl ?_))
  refine aB (j5 8) ?_
  refine bj 11 1 [24,25,26,27,28,29,30,31,32,33,34,8] [] (by decide +kernel) rfl ?_
  repeat refine aa rfl ?_
  refine ap rfl rfl rfl e1 rfl rfl ?_
  repeat refine aa rfl ?_
  refine ap rfl rfl rfl e2 rfl rfl ?_
  repeat refine aa rfl ?_
  refine gR [(1,.clo cl caps),(4,.ptr 4 1 0 0),(5,.ptr 5 1 0 0),(8,.ptr 8 ((s.own 8).1 + 2 + 1) 0 0),(18,.sl (l.map eS)),(19,I l.length),(20,I (i : Nat)),(37,.sl (xM.map eR)),(38,I (xM.map eR).length),(39,I ((0 : Nat) : Int))]
   [(4,1,⟨29,6,[I 0 :: (zN ++ [.nil])],2⟩),(5,1,⟨29,6,[I w :: (eR A0 ++ [.als 400 (1 + i) 0 (B.map eS).length])],2⟩),(400,1 + i,⟨122,7,B.map eS,1⟩),(8,(s.own 8).1 + 2 + 1,⟨122,7,[I xx :: (eR XC ++ [.sl (xS.map eN),.nil])],2⟩)]
   ⟨rfl,rfl,rfl,rfl,rfl,rfl,rfl,rfl,rfl,rfl,rfl,rfl,rfl,rfl,trivial⟩ ?_
  generalize (s.own 8).1 + 2 + 1 = g8
  rw [hmm]
  intro s1
  refine aB (Ghost.nilcell (k := 300) (k0 := 8) (i := 0) (j := 6) (row := I xx :: (eR XC ++ [.sl (xS.map eN),.nil])) 26 4 1 rfl rfl rfl rfl rfl rfl rfl) ?_
  have hg3 : ∃ g3,(s1.own 300).1 + 1 = g3 := ⟨_,rfl⟩
  obtain ⟨g3,hg3⟩ := hg3
  refine ao (fun k : Nat => k ≤ xM.length) (fun k => [(1,.clo cl caps),(4,.ptr 4 1 0 0),(5,.ptr 5 1 0 0),(8,.ptr 8 g8 0 0),(18,.sl (l.map eS)),(19,I l.length),(20,I (i : Nat)),(37,.sl (xM.map eR)),(38,I xM.length),(39,I (k : Nat))])
   (fun k => [(4,1,⟨29,6,[I 0 :: (zN ++ [.nil])],2⟩),(5,1,⟨29,6,[I w :: (eR A0 ++ [.als 400 (1 + i) 0 (B.map eS).length])],2⟩),(400,1 + i,⟨122,7,B.map eS,1⟩),(8,g8,⟨122,7,[I xx :: (eR XC ++ [.sl (xS.map eN),.als 300 (g3 + k) 0 (((xM.take k).map lF).map eR).length])],2⟩),(300,g3 + k,⟨26,4,((xM.take k).map lF).map eR,1⟩)]) (fun k => xM.length - k) 0 (Nat.zero_le _)
   ⟨rfl,rfl,rfl,rfl,rfl,rfl,rfl,rfl,rfl,rfl,rfl,rfl,rfl,by rw [← hg3];rfl,by rw [← hg3];rfl,trivial⟩ ?_
  clear hg3
  intro k s2 hk
  repeat refine aa rfl ?_
  refine ab rfl ?_ ?_<;>intro h
  ·have hlk : k < xM.length := by have := of_decide_eq_true h;omega
   clear h
   obtain ⟨m,hm⟩ := aH hlk
   have e4 := e3 m (List.mem_of_getElem? hm)
   have hrk := ic (f := lF) hm
   have hkl : ((xM.take k).map lF).length ≤ 1000 := by rw [List.length_map,List.length_take];omega
   have hwk : IntKind.i64.wrap (((k : Nat) : Int) + 1) = ((k + 1 : Nat) : Int) := by rw [wrap_i64 (by omega) (by omega)];omega
   generalize lF m = n at *
   generalize (xM.take k).map lF = E at *
   repeat refine aa rfl ?_
   refine bO rfl rfl rfl rfl rfl rfl rfl hm rfl ?_
   (repeat ((fail_if_success (with_reducible refine aM 9 ?_));refine cF rfl ?_))
   refine lP [48,300] [8] 9 [5,6,9] (by decide +kernel) (by decide +kernel) ?_
   repeat refine aa rfl ?_
   refine ap rfl rfl rfl e4 rfl rfl ?_
   repeat refine aa rfl ?_
   refine Aa rfl rfl rfl (br 1 rfl rfl rfl rfl rfl rfl rfl rfl rfl rfl rfl (by repeat' constructor) rfl ⟨q9 rfl,?_⟩)
   repeat refine aa rfl ?_
   refine Aa rfl rfl rfl (bP 1 rfl rfl rfl rfl rfl rfl rfl rfl rfl rfl rfl (by repeat' constructor) (by intro row hr;first | (simp at hr;subst hr;rfl) | (simp at hr;obtain ⟨_,_,rfl⟩ := hr;rfl) | simp at hr) rfl rfl (by simp;omega) (by simp;omega) ⟨q9 rfl,?_⟩)
   repeat refine aa rfl ?_
   have hb3 : g3 + (k + 1) = g3 + k + 1 := rfl
   refine ⟨k + 1,hlk,by omega,rfl,rfl,rfl,rfl,rfl,rfl,rfl,rfl,rfl,congrArg I hwk,rfl,rfl,rfl,?_,?_,trivial⟩
   ·rw [hrk,hb3]
    refine Eq.trans (b := (g8,some (Cont.mk 122 7 [I xx :: (eR XC ++ [.sl (xS.map eN),.als 300 (g3 + k + 1) 0 (E.map eR ++ [eR n]).length])] 2))) rfl ?_
    rw [show (E ++ [n]).map eR = E.map eR ++ [eR n] by rw [List.map_append];rfl]
   ·rw [hrk,hb3,show (E ++ [n]).map eR = E.map eR ++ [eR n] by rw [List.map_append];rfl]
    rfl
  ·have hke : k = xM.length := by have := of_decide_eq_false h;omega
   clear h
   subst hke
   rw [List.take_length]
   refine aB (Ghost.freezeD (k := 300) (k0 := 8) (i := 0) (j := 6) (row := I xx :: (eR XC ++ [.sl (xS.map eN),.als 300 (g3 + xM.length) 0 ((xM.map lF).map eR).length])) rfl rfl rfl rfl rfl rfl rfl rfl) ?_
   ((repeat ((fail_if_success (with_reducible refine aM 11 ?_));refine cF rfl ?_));refine ay 1 ?_)
   refine aa rfl ?_
   refine aS ?_
   refine aI rfl (hcx.run rfl rfl ⟨rfl,rfl,rfl,rfl,trivial⟩ fun s3 => ?_)
   refine aD ?_
   repeat refine aa rfl ?_
   refine ax (br 1 rfl rfl rfl rfl rfl rfl rfl rfl rfl rfl rfl (by repeat' constructor) rfl ?_)
   repeat refine aa rfl ?_
   refine ax (bP 1 rfl rfl rfl rfl rfl rfl rfl rfl rfl rfl rfl (by repeat' constructor) (by intro row hr;first | (simp at hr;subst hr;rfl) | simp at hr) rfl rfl (by simp;omega) (by simp;omega) ?_)
   repeat refine aa rfl ?_
   have hb4 : 1 + (i + 1) = 1 + i + 1 := rfl
   refine ⟨i + 1,hlt,by omega,rfl,rfl,rfl,rfl,rfl,congrArg I hw,rfl,?_,?_,trivial⟩
   ·rw [hrow,hb4]
    refine Eq.trans (b := (1,some (Cont.mk 29 6 [I w :: (eR A0 ++ [.als 400 (1 + i + 1) 0 (B.map eS ++ [eS y]).length])] 2))) ?_ ?_
    ·rw [hGx]
     rfl
    ·rw [show (B ++ [y]).map eS = B.map eS ++ [eS y] by rw [List.map_append];rfl]
   ·rw [hrow,hb4,show (B ++ [y]).map eS = B.map eS ++ [eS y] by rw [List.map_append];rfl,hGx]
    rfl
 ·have hie : i = l.length := by have := of_decide_eq_false h;omega
  clear h
  subst hie
  rw [List.take_length]
  refine aB (Ghost.freezeD (k := 400) (k0 := 5) (i := 0) (j := 5) (row := I w :: (eR A0 ++ [.als 400 (1 + l.length) 0 ((l.map G).map eS).length])) rfl rfl rfl rfl rfl rfl rfl rfl) ?_
  repeat refine aa rfl ?_
  exact aK rfl rfl rfl
def zB : List PV := I 0 :: (zN ++ [.nil])
def o0 : BR := ⟨0,RR.zero,[]⟩
theorem WeakL.app {a b c d : List PV} (h1 : WeakL a b) (h2 : WeakL c d) : WeakL (a ++ c) (b ++ d) := by
 induction h1 with
 |nil => exact h2
 |cons h _ ih => exact .cons h ih
theorem sV : WeakL zB (eB o0) := .cons (.rfl _) (eJ.app (.cons .nil .nil))
set_option maxRecDepth 20000 in
theorem o5 (b : BR) (hb : b.Lim) : Ret Tryz.prog .shared 122 [.agg (eB b)] (.tup [.agg (eB (if aU b = 0 then b else o0)),I (aU b)]) := by
 have h1 := bt b hb
 by_cases h0 : aU b = 0
 ·rw [if_pos h0,h0]
  rw [h0] at h1
  refine Ret.of_pwp layOk mixed Go.Proofs.Tryz.func122 rfl (by decide) rfl rfl ?_
  repeat refine aa rfl ?_
  refine aY rfl rfl rfl h1 rfl rfl rfl ?_
  repeat refine aa rfl ?_
  exact aK rfl rfl rfl
 ·rw [if_neg h0]
  suffices hz : Ret Tryz.prog .shared 122 [.agg (eB b)] (.tup [.agg zB,I (aU b)]) from hz.weak (WeakL.refl _) (WeakL.tup (.cons sV.agg (WeakL.refl _)))
  generalize aU b = e at *
  refine Ret.of_pwp layOk mixed Go.Proofs.Tryz.func122 rfl (by decide) rfl rfl ?_
  repeat refine aa rfl ?_
  refine aY rfl rfl rfl h1 rfl rfl rfl ?_
  repeat refine aa rfl ?_
  refine ab rfl ?_ ?_<;>intro h
  ·clear h
   repeat refine aa rfl ?_
   exact aK rfl rfl rfl
  ·simp at h
   exact absurd h h0
def BH (up : RR) (x : SR) : SR := ⟨x.x,ofQ (x.c.val + up.val),x.k⟩
def jB (up : RR) (b : BR) : BR := BI (BH up) b
set_option maxRecDepth 20000 in
theorem tX (b : BR) (hb : b.Lim) (h0 : aU b ≠ 0) (up : RR) : Ret Tryz.prog .shared 43 [.agg (eB b),.agg (eR up)] (.tup [.agg (eB o0),I (aU b)]) := by
 have h1 := bt b hb
 suffices hz : Ret Tryz.prog .shared 43 [.agg (eB b),.agg (eR up)] (.tup [.agg zB,I (aU b)]) from hz.weak (WeakL.refl _) (WeakL.tup (.cons sV.agg (WeakL.refl _)))
 generalize aU b = e at *
 refine Ret.of_pwp layOk mixed Go.Proofs.Tryz.func43 rfl (by decide) rfl rfl ?_
 repeat refine aa rfl ?_
 refine aY rfl rfl rfl h1 rfl rfl rfl ?_
 repeat refine aa rfl ?_
 refine ab rfl ?_ ?_<;>intro h
 ·clear h
  repeat refine aa rfl ?_
  exact aK rfl rfl rfl
 ·simp at h
  exact absurd h h0
set_option maxRecDepth 20000 in
theorem wR {up : RR} (b : BR) (hb : b.Lim) (h12 : b.l.length ≤ 1000) (hM : ∀ s ∈ b.l,s.k.M.length ≤ 1000) (hl : (jB up b).Lim) (h0 : aU b = 0) (hu : up.sz 12) : Ret Tryz.prog .shared 43 [.agg (eB b),.agg (eR up)] (.tup [.agg (eB (if aU (jB up b) = 0 then jB up b else o0)),I (aU (jB up b))]) := by
 have h1 := bt b hb
 rw [h0] at h1
 have hlw : ∀ {x : RR},x.sz 12 → (lF x).sz 100 := fun {x} hx => by
  have := eO (hx.v).hq.ok
  exact ⟨by show (ofQ x.val).n.l.length ≤ 100;omega,by show (ofQ x.val).d.l.length ≤ 100;omega⟩
 have h2 := qK b hb h12 hM 124 [.dref (eR up) 0] (BH up) (fun s hs => wQ up hu (Aq s) (hlw (hb.l.1 s hs).c))
 have h3 := o5 (jB up b) hl
 rw [show BI (BH up) b = jB up b from rfl] at h2
 generalize aU (jB up b) = e at *
 generalize hX : (if e = 0 then jB up b else o0) = X at *
 generalize jB up b = c at *
 refine Ret.of_pwp layOk mixed Go.Proofs.Tryz.func43 rfl (by decide) rfl rfl ?_
 (repeat ((fail_if_success (with_reducible refine aM 1 ?_));refine cF rfl ?_))
 refine aB (Ghost.data (k := 3) (t := 3) rfl rfl rfl rfl) ?_
 repeat refine aa rfl ?_
 refine aY rfl rfl rfl h1 rfl rfl rfl ?_
 repeat refine aa rfl ?_
 refine ap rfl rfl rfl h2 rfl rfl ?_
 repeat refine aa rfl ?_
 refine ap rfl rfl rfl h3 rfl rfl ?_
 repeat refine aa rfl ?_
 exact aK rfl rfl rfl
structure Raised (u : Rat) (b c : BR) : Prop where
 n : c.l.length = b.l.length
 x : ∀ i,i < b.l.length → (c.l.getD i dS).x = (b.l.getD i dS).x
 S : ∀ i,i < b.l.length → (c.l.getD i dS).k.S = (b.l.getD i dS).k.S
 m : ∀ i,i < b.l.length → (c.l.getD i dS).k.m = (b.l.getD i dS).k.m
 cc : ∀ i,i < b.l.length → (c.l.getD i dS).c.val = (b.l.getD i dS).c.val + u
 w : c.w = b.w
 a : c.a.val = b.a.val
variable {u : Rat} {b c : BR}
theorem Raised.s (h : Raised u b c) {i : Nat} (hi : i < b.l.length) : (c.l.getD i dS).k.s = (b.l.getD i dS).k.s := by
 funext k
 rw [CR.s,CR.s,h.S i hi]
theorem Raised.f (h : Raised u b c) {z t : Rat} {i : Nat} (hi : i < b.l.length) : (bd c).f (z - u) t i = (bd b).f z t i := by
 have e : (bd c).y (z - u) t i = (bd b).y z t i := by
  show (c.l.getD i dS).c.val + (z - u + t * ((c.l.getD i dS).x : Rat)) = (b.l.getD i dS).c.val + (z + t * ((b.l.getD i dS).x : Rat))
  rw [h.cc i hi,h.x i hi]
  grind
 show cz (c.l.getD i dS).k.S.length (c.l.getD i dS).k.s (c.l.getD i dS).k.m ((bd c).y (z - u) t i) = cz (b.l.getD i dS).k.S.length (b.l.getD i dS).k.s (b.l.getD i dS).k.m ((bd b).y z t i)
 rw [e,h.S i hi,h.s hi,h.m i hi]
theorem Raised.bal (h : Raised u b c) {z t : Rat} : (bd c).Bal (z - u) t ↔ (bd b).Bal z t := by
 have e1 : (bd c).F (z - u) t = (bd b).F z t := by
  show ac ((bd c).f (z - u) t) c.l.length = ac ((bd b).f z t) b.l.length
  rw [h.n]
  exact aT fun i hi => h.f hi
 have e2 : (bd c).G (z - u) t = (bd b).G z t := by
  show ac (fun i => (bd c).f (z - u) t i * ((c.l.getD i dS).x : Rat)) c.l.length = ac (fun i => (bd b).f z t i * ((b.l.getD i dS).x : Rat)) b.l.length
  rw [h.n]
  exact aT fun i hi => by rw [h.f hi,h.x i hi]
 rw [Bd.Bal,Bd.Bal,e1,e2]
 show _ = (c.w : Rat) ∧ _ = (c.w : Rat) * c.a.val ↔ _
 rw [h.w,h.a]
 rfl
theorem Raised.bal2 (h : Raised u b c) {z t : Rat} : (bd c).Bal z t ↔ (bd b).Bal (z + u) t := by
 rw [← h.bal,show z + u - u = z by grind]
theorem Raised.FL (h : Raised u b c) {z t : Rat} : FL c.l (z - u) t = FL b.l z t := by
 refine List.ext_getElem? fun i => ?_
 by_cases hi : i < b.l.length
 ·rw [rO hi,rO (show i < c.l.length by rw [h.n];exact hi)]
  exact congrArg (fun q => some (ofQ q)) (h.f hi)
 ·rw [List.getElem?_eq_none (by rw [Go.Pv.FL,List.length_map,h.n];omega),List.getElem?_eq_none (by rw [Go.Pv.FL,List.length_map];omega)]
theorem Raised.ref (h : Raised u b c) : cx c = cx b := by
 funext r
 have hx : ∀ i,i < b.l.length → xI c.l i = xI b.l i := fun i hi => by rw [xI,xI,h.x i hi]
 have e1 : dT c.l r.z.val r.t.val c.l.length ↔ dT b.l r.z.val r.t.val b.l.length := by
  constructor
  ·intro g i hi hp
   have := g i (by rw [h.n];exact hi) (by rw [hx i hi];exact hp)
   rw [we,h.m i hi,h.S i hi] at this
   exact this
  ·intro g i hi hp
   rw [h.n] at hi
   have := g i hi (by rw [← hx i hi];exact hp)
   rw [we,h.m i hi,h.S i hi]
   exact this
 have e2 : ac (yT c.l r.z.val r.t.val) c.l.length = ac (yT b.l r.z.val r.t.val) b.l.length := by
  rw [h.n]
  refine aT fun i hi => ?_
  rw [yT,yT,hx i hi,cI,cI,h.S i hi,h.s hi,h.m i hi]
 have key : cx c r = true ↔ cx b r = true := by
  rw [cx,cx,ec,ec,e1,e2,h.w,h.a]
 cases h1 : cx c r with
 |true => exact (key.1 h1).symm
 |false =>
  cases h2 : cx b r with
  |false => rfl
  |true => rw [key.2 h2] at h1;cases h1
theorem Raised.xs (h : Raised u b c) : c.l.map (·.x) = b.l.map (·.x) := by
 refine List.ext_getElem? fun i => ?_
 rw [List.getElem?_map,List.getElem?_map]
 by_cases hi : i < b.l.length
 ·rw [bi (d := dS) hi,bi (d := dS) (show i < c.l.length by rw [h.n];exact hi)]
  exact congrArg some (h.x i hi)
 ·rw [List.getElem?_eq_none (show c.l.length ≤ i by rw [h.n];omega),List.getElem?_eq_none (show b.l.length ≤ i by omega)]
theorem Raised.turn (h : Raised u b c) : bD c.l = bD b.l := by rw [bD,bD,bk,bk,h.xs]
inductive SaidUp (u : Rat) (b c : BR) : Prop
 |none (r : AR) (e : Int) (he : e = 12 ∨ e = 13) (hv : Va r r.z.val r.t.val 4 4) (h1 : cS b = ⟨zA,[],r,e⟩) (h2 : cD b = ([],e)) (h3 : cS c = ⟨zA,[],r,e⟩) (h4 : cD c = ([],e))
 |loose (F : List RR) (hF : BG F 1000000) (hl : F.length ≤ 1000) (h1 : cS b = ⟨zA,[],zA,14⟩) (h2 : cD b = (F,0)) (h3 : cS c = ⟨zA,[],zA,14⟩) (h4 : cD c = (F,0))
 |one (z t : Rat) (F : List RR) (hF : BG F 1000000) (hl : F.length ≤ 1000) (hz : HQ z 24000) (ht : HQ t 20000) (h1 : cS b = ⟨⟨ofQ z,ofQ t⟩,F,zA,0⟩) (h2 : cD b = (F,0)) (h3 : cS c = ⟨⟨ofQ (z - u),ofQ t⟩,F,zA,0⟩) (h4 : cD c = (F,0))
theorem yX (h : Raised u b c) (hgb : b.Good) (hgc : c.Good) (hb0 : aU b = 0) (hc0 : aU c = 0) : SaidUp u b c := by
 obtain ⟨hb,hsb,-⟩ := hgb.2 hb0
 obtain ⟨hc,hsc,-⟩ := hgc.2 hc0
 have e1 := @rfl _ (cS b)
 have e2 := @rfl _ (cD b)
 have e3 := @rfl _ (cS c)
 have e4 := @rfl _ (cD c)
 conv at e1 => rhs;rw [cS,if_pos hb0]
 conv at e2 => rhs;rw [cD,if_pos hb0]
 conv at e3 => rhs;rw [cS,if_pos hc0,h.ref,h.turn]
 conv at e4 => rhs;rw [cD,if_pos hc0,h.ref,h.turn]
 by_cases h1 : cx b bK = true
 ·rw [if_pos h1] at e1 e2 e3 e4
  exact .none bK 12 (.inl rfl) nZ e1 e2 e3 e4
 rw [if_neg h1] at e1 e2 e3 e4
 cases h2 : (bD b.l).find? (cx b) with
 |some r =>
  rw [h2] at e1 e2 e3 e4
  exact .none r 13 (.inr rfl) (oK hb.chkL (List.mem_of_find?_eq_some h2)) e1 e2 e3 e4
 |none =>
  rw [h2] at e1 e2 e3 e4
  simp only at e1 e2 e3 e4
  have hn := gK h1 h2
  have hn' : fX c := gK (b := c) (by rw [h.ref];exact h1) (by rw [h.ref,h.turn];exact h2)
  obtain ⟨_,hbal,hz,ht⟩ := f8 hb hsb hn
  obtain ⟨_,hbal',hz',ht'⟩ := f8 hc hsc hn'
  have hF := A1 hb.lim.l hb.few hz ht
  have hF2 : BG (FL b.l (dy b).1 (dy b).2) 1000000 := fun x hx => ⟨Nat.le_trans (hF x hx).1 (by decide),Nat.le_trans (hF x hx).2 (by decide)⟩
  have hlen : (FL b.l (dy b).1 (dy b).2).length ≤ 1000 := by rw [Go.Pv.FL,List.length_map];have := hb.few.1;omega
  have hFF : FL c.l (dy c).1 (dy c).2 = FL b.l (dy b).1 (dy b).2 := by
   rw [u5 hc (h.bal.2 hbal) hbal',h.FL]
  rw [hFF] at e3 e4
  cases hl : cC b (dy b).1 (dy b).2 with
  |true =>
   have hl' : cC c (dy c).1 (dy c).2 = true := by
    cases g : cC c (dy c).1 (dy c).2 with
    |true => rfl
    |false =>
     have g1 := (fD hc hbal').1 g
     have g2 : cC b (dy b).1 (dy b).2 = false := (fD hb hbal).2 fun z t hzt => by
      obtain ⟨a1,a2⟩ := g1 _ _ (h.bal.2 hzt)
      obtain ⟨a3,a4⟩ := g1 _ _ (h.bal.2 hbal)
      constructor
      ·grind
      ·rw [a2,a4]
     rw [hl] at g2
     cases g2
   rw [if_pos hl] at e1
   rw [if_pos hl'] at e3
   exact .loose _ hF2 hlen e1 e2 e3 e4
  |false =>
   have g1 := (fD hb hbal).1 hl
   have hu : ∀ z t,(bd c).Bal z t → z = (dy b).1 - u ∧ t = (dy b).2 := fun z t hzt => by
    obtain ⟨a1,a2⟩ := g1 _ _ (h.bal2.1 hzt)
    exact ⟨by grind,a2⟩
   obtain ⟨a1,a2⟩ := hu _ _ hbal'
   have hl' : cC c (dy c).1 (dy c).2 = false := (fD hc hbal').2 fun z t hzt => by
    obtain ⟨a3,a4⟩ := hu _ _ hzt
    exact ⟨by rw [a3,a1],by rw [a4,a2]⟩
   rw [if_neg (by rw [hl];decide)] at e1
   rw [if_neg (by rw [hl'];decide),a1,a2] at e3
   exact .one _ _ _ hF2 hlen hz ht e1 e2 e3 e4
end Go.Pv
set_option maxHeartbeats 2000000
namespace Go.Pv
attribute [local irreducible] PWP POps PQuiet PSem au ar aj ai
open Go.Proofs
theorem vQ {f : SR → SR} {l : List SR} {i : Nat} (hi : i < l.length) : (l.map f).getD i dS = f (l.getD i dS) := by
 rw [List.getD_eq_getElem?_getD,List.getElem?_map,bi (d := dS) hi];rfl
theorem kA (x : RR) : (lF x).val = x.val := ofQ_val _
theorem BU (S : List Int) (M : List RR) : (CR.mk S (M.map lF)).m = (CR.mk S M).m := by
 funext k
 show ((M.map lF).getD k RR.zero).val = (M.getD k RR.zero).val
 rw [List.getD_eq_getElem?_getD,List.getD_eq_getElem?_getD,List.getElem?_map]
 cases M[k]? with
 |none => rfl
 |some x => exact kA x
theorem nE (up : RR) (b : BR) : Raised up.val b (jB up b) := by
 have hn : (jB up b).l.length = b.l.length := List.length_map _
 have hg : ∀ i,i < b.l.length → (jB up b).l.getD i dS = BH up (Aq (b.l.getD i dS)) := fun i hi => vQ hi
 refine ⟨hn,fun i hi => by rw [hg i hi];rfl,fun i hi => by rw [hg i hi];rfl,fun i hi => ?_,fun i hi => ?_,rfl,kA _⟩
 ·rw [hg i hi]
  exact BU _ _
 ·rw [hg i hi]
  show (ofQ ((lF (b.l.getD i dS).c).val + up.val)).val = _
  rw [ofQ_val,kA]
theorem vW {q : Rat} {n m : Nat} (h : hq q n) (hm : n ≤ m) : (ofQ q).sz m := by
 have := eO h
 exact ⟨by omega,by omega⟩
theorem xV {up : RR} {b : BR} (hb : ArgB b) (h : eu b = true) (hu : up.sz 3) : (jB up b).Lim := by
 rw [eu,Bool.and_eq_true,jT,jp] at h
 refine ⟨hb.w,vW (im h.2) (by decide),fun s hs => ?_,?_⟩
 ·obtain ⟨x,hx,rfl⟩ := List.mem_map.1 hs
  obtain ⟨h1,h2,h3,h4⟩ := h.1.2 x hx
  obtain ⟨d1,d2⟩ := hb.data x hx
  refine ⟨d1,?_,d2,fun m hm => ?_,?_,?_⟩
  ·have hc : HQ ((lF x.c).val + up.val) 9 := by rw [kA];exact @HQ.add _ _ 4 4 ⟨im h3⟩ ⟨im hu⟩
   exact vW hc.ok (by decide)
  ·obtain ⟨y,hy,rfl⟩ := List.mem_map.1 (show m ∈ x.k.M.map lF from hm)
   exact vW (im (h4 y hy)) (by decide)
  ·show x.k.S.length ≤ _
   omega
  ·show (x.k.M.map lF).length ≤ _
   rw [List.length_map];omega
 ·show (b.l.map _).length ≤ _
  rw [List.length_map]
  have := h.1.1
  omega
theorem zn {up : RR} {b : BR} (hb : ArgB b) (h : eu b = true) (h0 : aU b = 0) (hu : up.sz 3) : (jB up b).Good := by
 have hl := xV hb h hu
 have hr := nE up b
 have hs := ((mV hb h).2 h0).2
 have hm := h
 rw [eu,Bool.and_eq_true,jT,jp] at h
 have hlen : (jB up b).l.length ≤ 10 := by rw [hr.n];exact h.1.1
 have h4 : ∀ s ∈ (jB up b).l,s.k.S.length ≤ 4 := fun s hs => by
  obtain ⟨x,hx,rfl⟩ := List.mem_map.1 hs
  exact (h.1.2 x hx).1
 refine ⟨hl,fun hc => ⟨⟨hl,hc,by omega,fun s hs => Nat.le_trans (h4 s hs) (by decide)⟩,?_,mH hlen h4⟩⟩
 refine ⟨hlen,fun i hi => ?_,fun i hi => ?_,fun i hi => ?_,fun i hi k hk => ?_,fun i hi k hk => ?_,hs.w,?_⟩
 ·exact Nat.le_trans (h4 _ (aF hi)) (by decide)
 ·have hi' : i < b.l.length := by rw [← hr.n];exact hi
  show hq (((jB up b).l.getD i dS).x : Rat) 4
  rw [hr.x i hi']
  exact hs.X i hi'
 ·have hi' : i < b.l.length := by rw [← hr.n];exact hi
  show hq ((jB up b).l.getD i dS).c.val 9
  rw [hr.cc i hi']
  exact (@HQ.add _ _ 4 4 ⟨im (h.1.2 _ (aF hi')).2.2.1⟩ ⟨im hu⟩).ok
 ·have hi' : i < b.l.length := by rw [← hr.n];exact hi
  have hk : k < ((jB up b).l.getD i dS).k.S.length := hk
  rw [hr.S i hi'] at hk
  show hq (((jB up b).l.getD i dS).k.s k) 4
  rw [hr.s hi']
  exact hs.S i hi' k hk
 ·have hi' : i < b.l.length := by rw [← hr.n];exact hi
  have hk : k < ((jB up b).l.getD i dS).k.S.length := hk
  rw [hr.S i hi'] at hk
  show hq (((jB up b).l.getD i dS).k.m k) 4
  rw [hr.m i hi']
  exact hs.M i hi' k hk
 ·show hq (jB up b).a.val 4
  rw [hr.a]
  exact hs.A
theorem dec_Rat {c : PV} (h : argW lay.get 26 c) : ∃ a : RR,c = .agg (eR a) := by
 obtain ⟨cs,rfl,h⟩ : ∃ cs,c = .agg cs ∧ ju lay.get 12 26 cs := h
 obtain ⟨a,rfl⟩ := rY h
 exact ⟨a,rfl⟩
set_option maxRecDepth 20000 in
theorem raises_law (b : BR) (hb : ArgB b) (up : RR) : Ret Tryz.prog .shared 9 [.agg (eB b),.agg (eR up)] (.bool true) := by
 have aw := s9
 have h1 := wg b hb.len
 have h2 := fL up 3 (by decide)
 have hmb := tO hb
 have hul := xV hb (up := up)
 have hug := zn hb (up := up)
 have hsm := (jT (x := up) (n := 3)).1
 have hmm : eu b = true → (∀ s ∈ b.l,s.k.M.length ≤ 1000) ∧ b.l.length ≤ 1000 := fun h => by
  rw [eu,Bool.and_eq_true,jT,jp] at h
  exact ⟨fun s hs => by have := (h.1.2 s hs).2.1;omega,by have := h.1.1;omega⟩
 generalize eu b = x1 at *
 generalize oP up 3 = x2 at *
 refine Ret.of_pwp layOk mixed Go.Proofs.Tryz.func9 rfl (by decide) rfl rfl ?_
 repeat refine aa rfl ?_
 refine aY rfl rfl rfl aw rfl rfl rfl ?_
 repeat refine aa rfl ?_
 refine aY rfl rfl rfl h1 rfl rfl rfl ?_
 cases x1
 ·repeat refine aa rfl ?_
  exact bm rfl rfl rfl
 repeat refine aa rfl ?_
 refine aY rfl rfl rfl h2 rfl rfl rfl ?_
 cases x2
 ·repeat refine aa rfl ?_
  exact bm rfl rfl rfl
 repeat refine aa rfl ?_
 have hgb := hmb rfl
 have hu3 := hsm rfl
 have hgl := hul rfl hu3
 have hgc := fun h0 => hug rfl h0 hu3
 obtain ⟨m1,m2⟩ := hmm rfl
 clear hmb hul hug hsm hmm h1 h2 aw
 by_cases h0 : aU b = 0
 rotate_left
 ·have r1 := tX b hgb.1 h0 up
  generalize aU b = e at *
  refine ap rfl rfl rfl r1 rfl rfl ?_
  repeat refine aa rfl ?_
  refine ab rfl ?_ ?_<;>intro h
  ·clear h
   repeat refine aa rfl ?_
   exact bm rfl rfl rfl
  ·simp at h
   exact absurd h h0
 have r1 := wR b hgb.1 m2 m1 hgl h0 (hu3.mono (by decide))
 have hgc := hgc h0
 have hrs := nE up b
 by_cases hc0 : aU (jB up b) = 0
 rotate_left
 ·rw [if_neg hc0] at r1
  generalize aU (jB up b) = e at *
  refine ap rfl rfl rfl r1 rfl rfl ?_
  repeat refine aa rfl ?_
  refine ab rfl ?_ ?_<;>intro h
  ·clear h
   repeat refine aa rfl ?_
   exact bm rfl rfl rfl
  ·simp at h
   exact absurd h hc0
 rw [if_pos hc0,hc0] at r1
 have hsaid := yX hrs hgb hgc h0 hc0
 have s1 := ny b hgb
 have s2 := ny (jB up b) hgc
 have s3 := nj b hgb
 have s4 := nj (jB up b) hgc
 clear hrs hgc hgl m1 m2 hc0
 generalize jB up b = c at *
 refine ap rfl rfl rfl r1 rfl rfl ?_
 repeat refine aa rfl ?_
 cases hsaid with
 |none r e he hv g1 g2 g3 g4 =>
  rw [g1,SQ.pv] at s1
  rw [g3,SQ.pv] at s2
  rw [g2] at s3
  rw [g4] at s4
  have q1 := fK [] (by decide) (fun x hx => by cases hx)
  have q2 := gv r ⟨Nat.le_trans hv.z.sz.1 (by decide),Nat.le_trans hv.z.sz.2 (by decide)⟩ ⟨Nat.le_trans hv.t.sz.1 (by decide),Nat.le_trans hv.t.sz.2 (by decide)⟩
  clear g1 g2 g3 g4 hv
  rcases he with rfl | rfl
  ·refine ap rfl rfl rfl s1 rfl rfl ?_
   repeat refine aa rfl ?_
   refine ap rfl rfl rfl s2 rfl rfl ?_
   repeat refine aa rfl ?_
   refine ap rfl rfl rfl s3 rfl rfl ?_
   repeat refine aa rfl ?_
   refine ap rfl rfl rfl s4 rfl rfl ?_
   repeat refine aa rfl ?_
   refine aY rfl rfl rfl q1 rfl rfl rfl ?_
   repeat refine aa rfl ?_
   refine aY rfl rfl rfl q2 rfl rfl rfl ?_
   repeat refine aa rfl ?_
   refine ah 30 [77,78,79,80,81,82,83,84,85,86,87,88,89,90,91,92,93,94,95,96,97,98,99,100,101,102,103,104,105,4] (by decide +kernel) ?_
   repeat refine aa rfl ?_
   exact bm rfl rfl rfl
  ·refine ap rfl rfl rfl s1 rfl rfl ?_
   repeat refine aa rfl ?_
   refine ap rfl rfl rfl s2 rfl rfl ?_
   repeat refine aa rfl ?_
   refine ap rfl rfl rfl s3 rfl rfl ?_
   repeat refine aa rfl ?_
   refine ap rfl rfl rfl s4 rfl rfl ?_
   repeat refine aa rfl ?_
   refine aY rfl rfl rfl q1 rfl rfl rfl ?_
   repeat refine aa rfl ?_
   refine aY rfl rfl rfl q2 rfl rfl rfl ?_
   repeat refine aa rfl ?_
   refine ah 30 [77,78,79,80,81,82,83,84,85,86,87,88,89,90,91,92,93,94,95,96,97,98,99,100,101,102,103,104,105,4] (by decide +kernel) ?_
   repeat refine aa rfl ?_
   exact bm rfl rfl rfl
 |loose F hF hl g1 g2 g3 g4 =>
  rw [g1,SQ.pv] at s1
  rw [g3,SQ.pv] at s2
  rw [g2] at s3
  rw [g4] at s4
  have q1 := fK F (by omega) (fun x hx => ⟨Nat.le_trans (hF x hx).1 (by decide),Nat.le_trans (hF x hx).2 (by decide)⟩)
  have q2 := gv zA ⟨by decide,by decide⟩ ⟨by decide,by decide⟩
  refine ap rfl rfl rfl s1 rfl rfl ?_
  repeat refine aa rfl ?_
  refine ap rfl rfl rfl s2 rfl rfl ?_
  repeat refine aa rfl ?_
  refine ap rfl rfl rfl s3 rfl rfl ?_
  repeat refine aa rfl ?_
  refine ap rfl rfl rfl s4 rfl rfl ?_
  repeat refine aa rfl ?_
  refine aY rfl rfl rfl q1 rfl rfl rfl ?_
  repeat refine aa rfl ?_
  refine aY rfl rfl rfl q2 rfl rfl rfl ?_
  repeat refine aa rfl ?_
  refine ah 30 [77,78,79,80,81,82,83,84,85,86,87,88,89,90,91,92,93,94,95,96,97,98,99,100,101,102,103,104,105,4] (by decide +kernel) ?_
  repeat refine aa rfl ?_
  exact bm rfl rfl rfl
 |one z t F hF hl hz ht g1 g2 g3 g4 =>
  rw [g1,SQ.pv] at s1
  rw [g3,SQ.pv] at s2
  rw [g2] at s3
  rw [g4] at s4
  have q1 := fK F (by omega) (fun x hx => ⟨Nat.le_trans (hF x hx).1 (by decide),Nat.le_trans (hF x hx).2 (by decide)⟩)
  have q2 := gv zA ⟨by decide,by decide⟩ ⟨by decide,by decide⟩
  have q3 := gw ht (by decide)
  have hzu : HQ (z - up.val) (24000 + 4 + 1) := @HQ.sub _ _ 24000 4 hz ⟨im hu3⟩
  have q4 := gw hzu (by decide)
  have q5 := ud (ofQ z) up (hx := Vq.ofQ (h := hz)) (hy := hu3.v) (by decide) (by decide)
  clear g1 g2 g3 g4 hzu hz ht hF
  generalize ofQ (z - up.val) = zu at *
  generalize ofQ z = zz at *
  generalize ofQ t = tt at *
  refine ap rfl rfl rfl s1 rfl rfl ?_
  repeat refine aa rfl ?_
  refine ap rfl rfl rfl s2 rfl rfl ?_
  repeat refine aa rfl ?_
  refine ap rfl rfl rfl s3 rfl rfl ?_
  repeat refine aa rfl ?_
  refine ap rfl rfl rfl s4 rfl rfl ?_
  repeat refine aa rfl ?_
  refine aY rfl rfl rfl q1 rfl rfl rfl ?_
  repeat refine aa rfl ?_
  refine aY rfl rfl rfl q2 rfl rfl rfl ?_
  repeat refine aa rfl ?_
  refine ah 30 [77,78,79,80,81,82,83,84,85,86,87,88,89,90,91,92,93,94,95,96,97,98,99,100,101,102,103,104,105,4] (by decide +kernel) ?_
  repeat refine aa rfl ?_
  refine aY rfl rfl rfl q1 rfl rfl rfl ?_
  repeat refine aa rfl ?_
  refine aY rfl rfl rfl q3 rfl rfl rfl ?_
  repeat refine aa rfl ?_
  refine ap rfl rfl rfl q5 rfl rfl ?_
  repeat refine aa rfl ?_
  refine aY rfl rfl rfl q4 rfl rfl rfl ?_
  repeat refine aa rfl ?_
  exact bm rfl rfl rfl
end Go.Pv
