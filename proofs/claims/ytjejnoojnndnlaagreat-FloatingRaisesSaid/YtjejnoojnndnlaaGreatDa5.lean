/- Texts of one hand, gathered: FdN, FmL, FdT, FdO, FdP, FdQ, FdR, FdS, FdU, FcV, FdV, FcW, FcX, FcY, FcZ, FdA, FdB, FdC, FdD, FdE, FdF, FdG, FdH, FdI, FdK, FdL, FdM, FrA, FrB, FrC, FrD, FrE, FrF, FrG, FrH. -/
import Derived.Test.YtjejnoojnndnlaaGreatDa4
set_option linter.unusedSectionVars false
set_option linter.unusedSimpArgs false
set_option linter.unusedVariables false
set_option linter.unnecessarySimpa false
set_option maxHeartbeats 2000000
namespace Go.Pv
attribute [local irreducible] PWP POps PQuiet PSem au ar aj ai
open Go.Proofs
set_option maxRecDepth 20000 in
theorem rJ {K : St → Prop} {s : St} {d g N Q : Nat} {x y z n c : Operand} {tys : Array TypeId} {ty : TypeId} {pos : String} {af : Array Edge} (P X M Y S : List BN) (hXY : X.length = Y.length) (hN : N = (P ++ X ++ M ++ Y ++ S).length) (hN1 : N ≤ 1000) (hQ : Q = P.length + X.length + M.length)
  (hx : s.ev x = .als 5 g 0 N) (hy : s.ev y = I P.length) (hz : s.ev z = I Q) (hn : s.ev n = I X.length) (hc : s.ev c = .clo 205 [])
  (ho : FitO s [(5,g,⟨206,8,(P ++ X ++ M ++ Y ++ S).map aZ,1⟩)])
  (hK : ∀ s1 : St,K (({ reg := s.reg,own := (s1.over [] [(5,g,⟨206,8,(P ++ Y ++ M ++ X ++ S).map aZ,1⟩)]).own } : St).putR d (.tup []))) :
  Sm Tryz.prog lay.get s ⟨some d,.call ⟨.value (.func 230),#[x,y,z,n,c],tys⟩,ty,pos,af,none⟩ K := by
 refine bB layOk rfl rfl Tryz.func230 rfl (by decide) rfl rfl ?_
 show PWP _ _ _ _ (aP s (([x,y,z,n,c] : List Operand).map s.ev ++ []))
 rw [show (([x,y,z,n,c] : List Operand).map s.ev ++ ([] : List PV)) = [.als 5 g 0 N,I P.length,I Q,I X.length,.clo 205 []] by simp [hx,hy,hz,hn,hc]]
 rw [show aP s [.als 5 g 0 N,I P.length,I Q,I X.length,.clo 205 []] = aP (s.over [] [(5,g,⟨206,8,(P ++ X ++ M ++ Y ++ S).map aZ,1⟩)]) [.als 5 g 0 N,I P.length,I Q,I X.length,.clo 205 []] by rw [Fit.over (l := []) ho]]
 have hlen : N = P.length + X.length + M.length + Y.length + S.length := by rw [hN];simp;omega
 repeat refine aa rfl ?_
 refine ao (fun k => k ≤ X.length) (fun k => [(0,.als 5 g 0 N),(1,I P.length),(2,I Q),(3,I X.length),(10,I (k : Nat))])
  (fun k => [(5,g,⟨206,8,(qt P X M Y S k).map aZ,1⟩)]) (fun k => X.length - k) 0 (Nat.zero_le _) ⟨rfl,rfl,rfl,rfl,rfl,by rw [xH];rfl,trivial⟩ ?_
 intro k s1 hk
 repeat refine aa rfl ?_
 refine ab rfl ?_ ?_<;>intro h
 ·have hlt : k < X.length := by have := of_decide_eq_true h;omega
  clear h
  obtain ⟨p,hp⟩ := aH hlt
  obtain ⟨q,hq⟩ := aH (show k < Y.length by omega)
  have hw1 : IntKind.i64.wrap (((P.length : Nat) : Int) + (k : Nat)) = ((P.length + k : Nat) : Int) := by rw [wrap_i64 (by omega) (by omega)];omega
  have hw2 : IntKind.i64.wrap (((Q : Nat) : Int) + (k : Nat)) = ((Q + k : Nat) : Int) := by rw [wrap_i64 (by omega) (by omega)];omega
  have hw := jx k
  have hr1 : ((qt P X M Y S k).map aZ)[P.length + k]? = some (aZ p) := by rw [List.getElem?_map,y8 hp hq];rfl
  have hr2 : ((qt P X M Y S k).map aZ)[Q + k]? = some (aZ q) := by rw [List.getElem?_map,hQ,y_ hp hq];rfl
  repeat refine aa rfl ?_
  refine bj 21 0 [16,17,18,19,20,21,22,23,24,25,26,27,28,29,30,31,32,33,34,35,36] [4,5,6,7] (by decide +kernel) rfl ?_
  repeat refine aa rfl ?_
  rw [hw1,hw2]
  refine gS rfl rfl rfl rfl rfl rfl rfl rfl rfl ?_
  rw [Int.toNat_natCast,Nat.zero_add (Q + k)]
  refine bp rfl rfl (bG rfl rfl rfl hr2 rfl) ?_
  repeat refine aa rfl ?_
  rw [hw1]
  refine gS rfl rfl rfl rfl rfl rfl rfl rfl rfl ?_
  rw [Int.toNat_natCast,Nat.zero_add (P.length + k)]
  refine bp rfl rfl (bG rfl rfl rfl hr1 rfl) ?_
  repeat refine aa rfl ?_
  refine gS rfl rfl rfl rfl rfl rfl rfl rfl rfl ?_
  rw [Int.toNat_natCast,Nat.zero_add (P.length + k)]
  repeat refine aa rfl ?_
  refine be (bc (kd' := 1) rfl rfl rfl hr1 rfl rfl (by repeat' constructor) rfl rfl rfl rfl ?_)
  refine gS rfl rfl rfl rfl rfl rfl rfl rfl rfl ?_
  rw [Int.toNat_natCast,Nat.zero_add (Q + k)]
  refine be (bc (kd' := 1) rfl rfl rfl (row := aZ q) (by
   show (((qt P X M Y S k).map aZ).set (P.length + k) _)[Q + k]? = _
   rw [List.getElem?_set_ne (by omega)];exact hr2) rfl rfl (by repeat' constructor) rfl rfl rfl rfl ?_)
  repeat refine aa rfl ?_
  refine ⟨k + 1,hlt,by omega,rfl,rfl,rfl,rfl,congrArg I hw,?_,trivial⟩
  refine Eq.trans (b := (g,some (Cont.mk 206 8 ((((qt P X M Y S k).map aZ).set (P.length + k) (aZ q)).set (Q + k) (aZ p)) 1))) rfl ?_
  rw [← List.map_set,← List.map_set,hQ,y9 hp hq]
 ·have hge : k = X.length := by have := of_decide_eq_false h;omega
  clear h
  rw [hge,y7 hXY]
  repeat refine aa rfl ?_
  exact b_ rfl (hK s1)
def zH (P U V S : List BN) (q : List BN × List BN × List BN × List BN) : Prop := q.2.1 ≠ [] ∧ q.2.2.1 ≠ [] ∧ q.1.length + q.2.1.length = P.length + U.length ∧ q.1 ++ q.2.2.1 ++ q.2.1 ++ q.2.2.2 = P ++ V ++ U ++ S
def t_ (q : List BN × List BN × List BN × List BN) : List BN := q.1 ++ q.2.1 ++ q.2.2.1 ++ q.2.2.2
theorem wY {P U V S : List BN} {q : List BN × List BN × List BN × List BN} (h : zH P U V S q) : (t_ q).length = (P ++ U ++ V ++ S).length := by
 have := congrArg List.length h.2.2.2
 simp only [t_,List.length_append] at *
 omega
set_option maxRecDepth 20000 in
theorem AI {K : St → Prop} {s : St} {d g N : Nat} {x y z n c : Operand} {tys : Array TypeId} {ty : TypeId} {pos : String} {af : Array Edge} (P U V S : List BN) (hU : U ≠ []) (hV : V ≠ []) (hN : N = (P ++ U ++ V ++ S).length) (hN1 : N ≤ 1000)
  (hx : s.ev x = .als 5 g 0 N) (hy : s.ev y = I P.length) (hz : s.ev z = I (P.length + U.length : Nat)) (hn : s.ev n = I (P.length + U.length + V.length : Nat)) (hc : s.ev c = .clo 205 [])
  (ho : FitO s [(5,g,⟨206,8,(P ++ U ++ V ++ S).map aZ,1⟩)])
  (hK : ∀ s1 : St,K (({ reg := s.reg,own := (s1.over [] [(5,g,⟨206,8,(P ++ V ++ U ++ S).map aZ,1⟩)]).own } : St).putR d (.tup []))) :
  Sm Tryz.prog lay.get s ⟨some d,.call ⟨.value (.func 229),#[x,y,z,n,c],tys⟩,ty,pos,af,none⟩ K := by
 have hlen : N = P.length + U.length + V.length + S.length := by rw [hN];simp;omega
 generalize hm : P.length + U.length = m at *
 refine bB layOk rfl rfl Tryz.func229 rfl (by decide) rfl rfl ?_
 show PWP _ _ _ _ (aP s (([x,y,z,n,c] : List Operand).map s.ev ++ []))
 rw [show (([x,y,z,n,c] : List Operand).map s.ev ++ ([] : List PV)) = [.als 5 g 0 N,I P.length,I m,I (m + V.length : Nat),.clo 205 []] by simp [hx,hy,hz,hn,hc]]
 rw [show aP s [.als 5 g 0 N,I P.length,I m,I (m + V.length : Nat),.clo 205 []] = aP (s.over [] [(5,g,⟨206,8,(P ++ U ++ V ++ S).map aZ,1⟩)]) [.als 5 g 0 N,I P.length,I m,I (m + V.length : Nat),.clo 205 []] by rw [Fit.over (l := []) ho]]
 have hwa : IntKind.i64.wrap (((m : Nat) : Int) - (P.length : Nat)) = (U.length : Nat) := by rw [wrap_i64 (by omega) (by omega)];omega
 have hwb : IntKind.i64.wrap (((m + V.length : Nat) : Int) - (m : Nat)) = (V.length : Nat) := by rw [wrap_i64 (by omega) (by omega)];omega
 repeat refine aa rfl ?_
 rw [hwa]
 repeat refine aa rfl ?_
 rw [hwb]
 refine ao (zH P U V S) (fun q => [(0,.als 5 g 0 N),(2,I m),(4,.clo 205 []),(10,I q.2.1.length),(11,I q.2.2.1.length)])
  (fun q => [(5,g,⟨206,8,(t_ q).map aZ,1⟩)]) (fun q => q.2.1.length + q.2.2.1.length) (P,U,V,S) ⟨hU,hV,rfl,rfl⟩ ⟨rfl,rfl,rfl,rfl,rfl,rfl,trivial⟩ ?_
 rintro ⟨A,X,Y,B⟩ s1 hq
 have hql := wY hq
 obtain ⟨hX,hY,hAm,heq⟩ := hq
 simp only at hX hY hAm heq
 have hX0 : 0 < X.length := List.length_pos_iff.2 hX
 have hY0 : 0 < Y.length := List.length_pos_iff.2 hY
 rw [hm] at hAm
 simp only [t_] at hql
 rw [← hN] at hql
 have hql2 : N = A.length + X.length + Y.length + B.length := by rw [← hql];simp;omega
 dsimp only [t_]
 repeat refine aa rfl ?_
 refine ab rfl ?_ ?_<;>intro h
 ·have hne : X.length ≠ Y.length := by
   intro e
   simp [e] at h
  clear h
  repeat refine aa rfl ?_
  refine ab rfl ?_ ?_<;>intro h
  ·have hgt : Y.length < X.length := by have := of_decide_eq_true h;omega
   clear h
   have hw1 : IntKind.i64.wrap (((m : Nat) : Int) - (X.length : Nat)) = (A.length : Nat) := by rw [wrap_i64 (by omega) (by omega)];omega
   have hw2 : IntKind.i64.wrap (((X.length : Nat) : Int) - (Y.length : Nat)) = ((X.drop Y.length).length : Nat) := by rw [wrap_i64 (by omega) (by omega),List.length_drop];omega
   have htl : (X.take Y.length).length = Y.length := by rw [List.length_take];omega
   have hsp : A ++ X ++ Y ++ B = A ++ X.take Y.length ++ X.drop Y.length ++ Y ++ B := by
    rw [List.append_assoc A (X.take _),List.take_append_drop]
   have hmQ : m = A.length + (X.take Y.length).length + (X.drop Y.length).length := by rw [htl,List.length_drop];omega
   rw [hsp]
   ((repeat ((fail_if_success (with_reducible refine aM 4 ?_));refine cF rfl ?_));refine ay 7 ?_)
   repeat refine aa rfl ?_
   refine aI rfl (rJ (N := N) (Q := m) A (X.take Y.length) (X.drop Y.length) Y B htl (by rw [← hsp];exact hql.symm) hN1 hmQ rfl (congrArg I hw1) rfl (by rw [htl];rfl) rfl ⟨rfl,trivial⟩ fun s2 => ?_)
   refine aD ?_
   repeat refine aa rfl ?_
   refine ⟨(A ++ Y,X.drop Y.length,X.take Y.length,B),⟨?_,?_,?_,?_⟩,?_,rfl,rfl,rfl,congrArg I hw2,by rw [htl];rfl,rfl,trivial⟩
   ·intro e;have := congrArg List.length e;rw [List.length_drop] at this;simp at this;omega
   ·intro e;have e2 : (X.take Y.length).length = 0 := by rw [show X.take Y.length = [] from e];rfl
    omega
   ·have hd : (X.drop Y.length).length = X.length - Y.length := List.length_drop
    show (A ++ Y).length + (X.drop Y.length).length = P.length + U.length
    rw [List.length_append,hd,hm];omega
   ·simp only
    rw [← heq]
    have e : X.take Y.length ++ X.drop Y.length = X := List.take_append_drop _ _
    calc A ++ Y ++ X.take Y.length ++ X.drop Y.length ++ B = A ++ Y ++ (X.take Y.length ++ X.drop Y.length) ++ B := by simp [List.append_assoc]
     _ = A ++ Y ++ X ++ B := by rw [e]
   ·have hd : (X.drop Y.length).length = X.length - Y.length := List.length_drop
    show (X.drop Y.length).length + (X.take Y.length).length < X.length + Y.length
    omega
  ·have hlt : X.length < Y.length := by have := of_decide_eq_false h;omega
   clear h
   obtain ⟨w,hw⟩ : ∃ w,w = Y.length - X.length := ⟨_,rfl⟩
   have hw1 : IntKind.i64.wrap (((m : Nat) : Int) - (X.length : Nat)) = (A.length : Nat) := by rw [wrap_i64 (by omega) (by omega)];omega
   have hw3 : IntKind.i64.wrap (((m : Nat) : Int) + (Y.length : Nat)) = ((m + Y.length : Nat) : Int) := by rw [wrap_i64 (by omega) (by omega)];omega
   have hw4 : IntKind.i64.wrap (((m + Y.length : Nat) : Int) - (X.length : Nat)) = ((m + w : Nat) : Int) := by rw [wrap_i64 (by omega) (by omega)];omega
   have htl : (Y.take w).length = w := by rw [List.length_take];omega
   have hdl : (Y.drop w).length = X.length := by rw [List.length_drop];omega
   have hw2 : IntKind.i64.wrap (((Y.length : Nat) : Int) - (X.length : Nat)) = ((Y.take w).length : Nat) := by rw [wrap_i64 (by omega) (by omega),htl];omega
   have hsp : A ++ X ++ Y ++ B = A ++ X ++ Y.take w ++ Y.drop w ++ B := by
    rw [List.append_assoc (A ++ X) (Y.take _),List.take_append_drop]
   rw [hsp]
   ((repeat ((fail_if_success (with_reducible refine aM 6 ?_));refine cF rfl ?_));refine ay 11 ?_)
   repeat refine aa rfl ?_
   rw [hw3]
   repeat refine aa rfl ?_
   refine aI rfl (rJ (N := N) (Q := m + w) A X (Y.take w) (Y.drop w) B hdl.symm (by rw [← hsp];exact hql.symm) hN1 (by rw [htl];omega) rfl (congrArg I hw1) (congrArg I hw4) rfl rfl ⟨rfl,trivial⟩ fun s2 => ?_)
   refine aD ?_
   repeat refine aa rfl ?_
   refine ⟨(A,Y.drop w,Y.take w,X ++ B),⟨?_,?_,?_,?_⟩,?_,rfl,rfl,rfl,by rw [hdl];rfl,congrArg I hw2,?_,trivial⟩
   ·intro e;have e2 : (Y.drop w).length = 0 := by rw [show Y.drop w = [] from e];rfl
    omega
   ·intro e;have e2 : (Y.take w).length = 0 := by rw [show Y.take w = [] from e];rfl
    omega
   ·show A.length + (Y.drop w).length = P.length + U.length
    rw [hdl,hm];omega
   ·simp only
    rw [← heq]
    have e : Y.take w ++ Y.drop w = Y := List.take_append_drop _ _
    calc A ++ Y.take w ++ Y.drop w ++ (X ++ B) = A ++ (Y.take w ++ Y.drop w) ++ X ++ B := by simp [List.append_assoc]
     _ = A ++ Y ++ X ++ B := by rw [e]
   ·show (Y.drop w).length + (Y.take w).length < X.length + Y.length
    omega
   ·dsimp only [t_]
    rw [show A ++ Y.drop w ++ Y.take w ++ (X ++ B) = A ++ Y.drop w ++ Y.take w ++ X ++ B by simp [List.append_assoc]]
    rfl
 ·have he : X.length = Y.length := by
   have h2 : ((X.length : Nat) : Int) = ((Y.length : Nat) : Int) := by simpa using h
   omega
  clear h
  have hw1 : IntKind.i64.wrap (((m : Nat) : Int) - (X.length : Nat)) = (A.length : Nat) := by rw [wrap_i64 (by omega) (by omega)];omega
  have hsp : A ++ X ++ Y ++ B = A ++ X ++ [] ++ Y ++ B := by simp
  rw [hsp]
  ((repeat ((fail_if_success (with_reducible refine aM 8 ?_));refine cF rfl ?_));refine ay 7 ?_)
  repeat refine aa rfl ?_
  refine aI rfl (rJ (N := N) (Q := m) A X [] Y B he (by rw [← hsp];exact hql.symm) hN1 (by simp;omega) rfl (congrArg I hw1) rfl rfl rfl ⟨rfl,trivial⟩ fun s2 => ?_)
  refine aD ?_
  repeat refine aa rfl ?_
  rw [show A ++ Y ++ [] ++ X ++ B = P ++ V ++ U ++ S by rw [List.append_nil];exact heq]
  exact b_ rfl (hK s2)
section
variable {α : Type} {key : α → Rat}
def ci (key : α → Rat) (c : Rat) (l : List α) : List α := l.filter fun x => decide (key x = c)
theorem bw (c : Rat) (A B : List α) : ci key c (A ++ B) = ci key c A ++ ci key c B := List.filter_append ..
theorem cW {c : Rat} {a : α} (l : List α) (h : key a = c) : ci key c (a :: l) = a :: ci key c l := List.filter_cons_of_pos (by simpa using h)
theorem eo {c : Rat} {a : α} (l : List α) (h : key a ≠ c) : ci key c (a :: l) = ci key c l := List.filter_cons_of_neg (by simpa using h)
theorem du {c : Rat} {a : α} {l : List α} : a ∈ ci key c l ↔ a ∈ l ∧ key a = c := by rw [ci,List.mem_filter,decide_eq_true_eq]
theorem vK : ∀ {A B : List α},eg key A → eg key B → (∀ c,ci key c A = ci key c B) → A = B
 |[],[],_,_,_ => rfl
 |[],b :: B,_,_,h => by
  have : b ∈ ci key (key b) ([] : List α) := by rw [h];exact du.2 ⟨List.mem_cons_self ..,rfl⟩
  cases this
 |a :: A,[],_,_,h => by
  have : a ∈ ci key (key a) ([] : List α) := by rw [← h];exact du.2 ⟨List.mem_cons_self ..,rfl⟩
  cases this
 |a :: A,b :: B,hA,hB,h => by
  obtain ⟨a1,a2⟩ := List.pairwise_cons.1 hA
  obtain ⟨b1,b2⟩ := List.pairwise_cons.1 hB
  have ha : a ∈ b :: B := (du.1 (by rw [← h];exact du.2 ⟨List.mem_cons_self ..,rfl⟩ : a ∈ ci key (key a) (b :: B))).1
  have hb : b ∈ a :: A := (du.1 (by rw [h];exact du.2 ⟨List.mem_cons_self ..,rfl⟩ : b ∈ ci key (key b) (a :: A))).1
  have k1 : key b ≤ key a := by
   rcases List.mem_cons.1 ha with e | e
   ·rw [e];exact Rat.le_refl
   ·exact b1 a e
  have k2 : key a ≤ key b := by
   rcases List.mem_cons.1 hb with e | e
   ·rw [e];exact Rat.le_refl
   ·exact a1 b e
  have hk : key b = key a := Rat.le_antisymm k1 k2
  have h0 := h (key a)
  rw [cW _ rfl,cW _ hk] at h0
  have hab : a = b := (List.cons.inj h0).1
  subst hab
  congr 1
  refine vK a2 b2 fun c => ?_
  have hc := h c
  by_cases e : key a = c
  ·rw [cW _ e,cW _ e] at hc
   exact (List.cons.inj hc).2
  ·rwa [eo _ e,eo _ e] at hc
def AY (key : α → Rat) (A B : List α) : Prop := ∀ x ∈ A,∀ y ∈ B,key x < key y
theorem yx {A B : List α} (h : AY key A B) (c : Rat) : ci key c A = [] ∨ ci key c B = [] := by
 rcases Classical.em (ci key c A = []) with e | e
 ·exact .inl e
 ·refine .inr (List.eq_nil_iff_forall_not_mem.2 fun y hy => ?_)
  obtain ⟨x,hx⟩ := List.exists_mem_of_ne_nil _ e
  obtain ⟨hx1,hx2⟩ := du.1 hx
  obtain ⟨hy1,hy2⟩ := du.1 hy
  have := h x hx1 y hy1
  rw [hx2,hy2] at this
  exact absurd this (Rat.lt_irrefl)
theorem lp {A B : List α} (h : AY key A B) (c : Rat) : ci key c (A ++ B) = ci key c (B ++ A) := by
 rw [bw,bw]
 rcases yx h c with e | e <;> rw [e] <;> simp
theorem qQ {U V W1 W2 : List α} {s t : Nat} (c2 : AY key (V.take t) (U.drop s)) (p1 : ∀ c,ci key c W1 = ci key c (U.take s ++ V.take t)) (p2 : ∀ c,ci key c W2 = ci key c (U.drop s ++ V.drop t)) (c : Rat) : ci key c (W1 ++ W2) = ci key c (U ++ V) := by
 have h := lp c2 c
 rw [bw,bw] at h
 have eU : ci key c U = ci key c (U.take s) ++ ci key c (U.drop s) := by rw [← bw,List.take_append_drop]
 have eV : ci key c V = ci key c (V.take t) ++ ci key c (V.drop t) := by rw [← bw,List.take_append_drop]
 rw [bw,p1,p2,bw,bw,bw,eU,eV,List.append_assoc,← List.append_assoc (ci key c (V.take t)),h]
 simp only [List.append_assoc]
end
variable {α : Type} {key : α → Rat}
theorem vL {c : Rat} {l : List α} (h : ∀ x ∈ l,key x ≠ c) : ci key c l = [] := List.eq_nil_iff_forall_not_mem.2 fun x hx => h x (du.1 hx).1 (du.1 hx).2
theorem v8 (l : List α) (x : α) (c : Rat) : ci key c (iC key l x) = ci key c (l ++ [x]) := by
 obtain ⟨h1,h2⟩ := jK key l x l.length (Nat.le_refl _)
 rw [iC,bx,pX]
 generalize kq key l x l.length = k at *
 have e : ci key c l = ci key c (l.take k) ++ ci key c (l.drop k) := by rw [← bw,List.take_append_drop]
 rw [bw,bw,e]
 by_cases hx : key x = c
 ·have hd : ci key c (l.drop k) = [] := vL fun y hy hyc => by
   obtain ⟨q,hq⟩ := List.mem_iff_getElem?.1 hy
   rw [List.getElem?_drop] at hq
   have := h2 (k + q) y (by omega) (List.getElem?_eq_some_iff.1 hq).1 hq
   rw [hx,hyc] at this
   exact absurd this Rat.lt_irrefl
  rw [cW _ hx,hd,cW _ hx]
  simp [ci]
 ·rw [eo _ hx,eo _ hx]
  simp [ci]
theorem jV (l : List α) (c : Rat) : ci key c (aE key l) = ci key c l := by
 have : ∀ (l acc : List α),ci key c (l.foldl (iC key) acc) = ci key c (acc ++ l) := by
  intro l
  induction l with
  |nil => intro acc;rw [List.append_nil];rfl
  |cons x l ih =>
   intro acc
   rw [List.foldl_cons,ih,bw,v8,bw,bw,show x :: l = [x] ++ l from rfl,bw]
   simp only [List.append_assoc]
 have h := this l []
 rwa [List.nil_append] at h
theorem uy {W l : List α} (hs : eg key W) (hf : ∀ c,ci key c W = ci key c l) : W = aE key l :=
 vK hs (dN key l) fun c => by rw [hf,jV]
end Go.Pv
set_option maxHeartbeats 2000000
namespace Go.Pv
attribute [local irreducible] PWP POps PQuiet PSem au ar aj ai
open Go.Proofs
theorem BS {P U V S : List BN} {i : Nat} {u : BN} (h : U[i]? = some u) : ((P ++ U ++ V ++ S).map aZ)[P.length + i]? = some (aZ u) := by
 have hi := (List.getElem?_eq_some_iff.1 h).1
 rw [List.getElem?_map,List.append_assoc,List.append_assoc,List.getElem?_append_right (by omega),show P.length + i - P.length = i by omega,List.getElem?_append_left (by omega),h];rfl
theorem BT {P U V S : List BN} {i : Nat} {v : BN} (h : V[i]? = some v) : ((P ++ U ++ V ++ S).map aZ)[P.length + U.length + i]? = some (aZ v) := by
 have hi := (List.getElem?_eq_some_iff.1 h).1
 rw [List.getElem?_map,List.append_assoc,List.getElem?_append_right (by rw [List.length_append];omega),show P.length + U.length + i - (P ++ U).length = i by rw [List.length_append];omega,List.getElem?_append_left (by omega),h];rfl
theorem sa (X Y : Nat) (h : X + Y ≤ 4000) : IntKind.i64.wrap (IntKind.u64.wrap (IntKind.i64.wrap (((X : Nat) : Int) + ((Y : Nat) : Int))) / 2 ^ Int.toNat 1) = (((X + Y) / 2 : Nat) : Int) := by
 rw [wrap_i64 (n := ((X : Nat) : Int) + ((Y : Nat) : Int)) (by omega) (by omega),wrap_u64 (by omega) (by omega),show ((2 : Int) ^ Int.toNat 1) = 2 by decide,wrap_i64 (by omega) (by omega)]
 omega
theorem wB {V : List BN} {u : BN} {t : Nat} (h : ∀ y ∈ V.take t,aJ y < aJ u) (c : Rat) : ci aJ c (V.take t ++ u :: V.drop t) = ci aJ c ([u] ++ V) := by
 have e : V.take t ++ u :: V.drop t = (V.take t ++ [u]) ++ V.drop t := by simp
 rw [e,bw,lp (fun x hx y hy => by rw [List.mem_singleton.1 hy];exact h x hx),← bw,List.append_assoc,List.take_append_drop]
theorem wC {U : List BN} {v : BN} {t : Nat} (h : ∀ y ∈ U.drop t,aJ v < aJ y) (c : Rat) : ci aJ c (U.take t ++ v :: U.drop t) = ci aJ c (U ++ [v]) := by
 have e : U.take t ++ v :: U.drop t = U.take t ++ ([v] ++ U.drop t) := by simp
 rw [e,bw,lp (fun x hx y hy => by rw [List.mem_singleton.1 hx];exact h y hy),← bw,← List.append_assoc,List.take_append_drop]
def dM (P V : List BN) (u : BN) (S : List BN) (r : Nat) : List BN := P ++ (V.take r ++ u :: V.drop r) ++ S
theorem kI {P V S : List BN} {u v : BN} {r : Nat} (h : V[r]? = some v) : dM P V u S r = (P ++ V.take r) ++ u :: ([] ++ v :: (V.drop (r + 1) ++ S)) := by
 rw [dM,dV h];simp [List.append_assoc]
theorem gT {P V S : List BN} {u v : BN} {r : Nat} (h : V[r]? = some v) : dM P V u S (r + 1) = (P ++ V.take r) ++ v :: ([] ++ u :: (V.drop (r + 1) ++ S)) := by
 rw [dM,fN h];simp [List.append_assoc]
theorem p7 {P V S : List BN} {u v : BN} {r : Nat} (h : V[r]? = some v) : ((dM P V u S r).map aZ)[P.length + r]? = some (aZ u) := by
 have hr := (List.getElem?_eq_some_iff.1 h).1
 have e := od (P ++ V.take r) [] (V.drop (r + 1) ++ S) u v
 rw [show (P ++ V.take r).length = P.length + r by simp;omega,← kI h] at e
 rw [List.getElem?_map,e];rfl
theorem p8 {P V S : List BN} {u v : BN} {r : Nat} (h : V[r]? = some v) : ((dM P V u S r).map aZ)[P.length + r + 1]? = some (aZ v) := by
 have hr := (List.getElem?_eq_some_iff.1 h).1
 have e := oe (P ++ V.take r) [] (V.drop (r + 1) ++ S) u v
 rw [show (P ++ V.take r).length = P.length + r by simp;omega,← kI h] at e
 rw [List.getElem?_map,show P.length + r + 1 = P.length + r + 1 + ([] : List BN).length from rfl,e];rfl
theorem w7 {P V S : List BN} {u v : BN} {r : Nat} (h : V[r]? = some v) : ((dM P V u S r).set (P.length + r) v).set (P.length + r + 1) u = dM P V u S (r + 1) := by
 have hr := (List.getElem?_eq_some_iff.1 h).1
 have e := oI (P ++ V.take r) [] (V.drop (r + 1) ++ S) u v
 rw [show (P ++ V.take r).length = P.length + r by simp;omega,← kI h,← gT h] at e
 exact e
theorem rj {P V S : List BN} {u v : BN} {r : Nat} (h : V[r]? = some v) : ((dM P V u S (r + 1)).set (P.length + r + 1) v).set (P.length + r) u = dM P V u S r := by
 have hr := (List.getElem?_eq_some_iff.1 h).1
 have e := oI (P ++ V.take r) [] (V.drop (r + 1) ++ S) v u
 rw [show (P ++ V.take r).length = P.length + r by simp;omega,← kI h,← gT h] at e
 rw [List.set_comm _ _ (by omega)]
 exact e
theorem np {P V S : List BN} {u v : BN} {r : Nat} (h : V[r]? = some v) : ((dM P V u S (r + 1)).map aZ)[P.length + r]? = some (aZ v) := by
 have hr := (List.getElem?_eq_some_iff.1 h).1
 have e := od (P ++ V.take r) [] (V.drop (r + 1) ++ S) v u
 rw [show (P ++ V.take r).length = P.length + r by simp;omega,← gT h] at e
 rw [List.getElem?_map,e];rfl
theorem nq {P V S : List BN} {u v : BN} {r : Nat} (h : V[r]? = some v) : ((dM P V u S (r + 1)).map aZ)[P.length + r + 1]? = some (aZ u) := by
 have hr := (List.getElem?_eq_some_iff.1 h).1
 have e := oe (P ++ V.take r) [] (V.drop (r + 1) ++ S) v u
 rw [show (P ++ V.take r).length = P.length + r by simp;omega,← gT h] at e
 rw [List.getElem?_map,show P.length + r + 1 = P.length + r + 1 + ([] : List BN).length from rfl,e];rfl
theorem pq {L : Lay} {fn : Func} {K : St → PV → Prop} {s : St} (h : fn.results.toList = []) (hk : K s (.tup [])) : ai L fn K .ret s := by
 unfold ai
 exact ⟨[],True,by rw [h];rfl,trivial,hk⟩
set_option maxRecDepth 20000 in
theorem za {K : St → Prop} {s : St} {d g N : Nat} {x y z n c : Operand} {tys : Array TypeId} {ty : TypeId} {pos : String} {af : Array Edge} (P : List BN) (u : BN) (V S : List BN) (hV : eg aJ V) (hs : ∀ p ∈ u :: V,p.at'.sz 7000000) (hN : N = (P ++ [u] ++ V ++ S).length) (hN1 : N ≤ 1000)
  (hx : s.ev x = .als 5 g 0 N) (hy : s.ev y = I P.length) (hz : s.ev z = I (P.length + 1 : Nat)) (hn : s.ev n = I (P.length + 1 + V.length : Nat)) (hc : s.ev c = .clo 205 [])
  (ho : FitO s [(5,g,⟨206,8,(P ++ [u] ++ V ++ S).map aZ,1⟩)])
  (hK : ∀ (s1 : St) (W : List BN),W.Perm ([u] ++ V) → (∀ c,ci aJ c W = ci aJ c ([u] ++ V)) → eg aJ W → K (({ reg := s.reg,own := (s1.over [] [(5,g,⟨206,8,(P ++ W ++ S).map aZ,1⟩)]).own } : St).putR d (.tup []))) :
  Sm Tryz.prog lay.get s ⟨some d,.call ⟨.value (.func 227),#[x,y,z,n,c],tys⟩,ty,pos,af,none⟩ K := by
 have hlen : N = P.length + 1 + V.length + S.length := by rw [hN];simp;omega
 generalize hm : P.length + 1 = m at *
 refine bB layOk rfl rfl Tryz.func227 rfl (by decide) rfl rfl ?_
 show PWP _ _ _ _ (aP s (([x,y,z,n,c] : List Operand).map s.ev ++ []))
 rw [show (([x,y,z,n,c] : List Operand).map s.ev ++ ([] : List PV)) = [.als 5 g 0 N,I P.length,I m,I (m + V.length : Nat),.clo 205 []] by simp [hx,hy,hz,hn,hc]]
 rw [show aP s [.als 5 g 0 N,I P.length,I m,I (m + V.length : Nat),.clo 205 []] = aP (s.over [] [(5,g,⟨206,8,(P ++ [u] ++ V ++ S).map aZ,1⟩)]) [.als 5 g 0 N,I P.length,I m,I (m + V.length : Nat),.clo 205 []] by rw [Fit.over (l := []) ho]]
 have hwa : IntKind.i64.wrap (((m : Nat) : Int) - (P.length : Nat)) = 1 := by rw [wrap_i64 (by omega) (by omega)];omega
 repeat refine aa rfl ?_
 rw [hwa]
 repeat refine aa rfl ?_
 refine ao (fun q : Nat × Nat => q.1 ≤ q.2 ∧ q.2 ≤ V.length ∧ (∀ v ∈ V.take q.1,aJ v < aJ u) ∧ (∀ v ∈ V.drop q.2,aJ u ≤ aJ v)) (fun q => [(0,.als 5 g 0 N),(1,I P.length),(4,.clo 205 []),(10,I (m + q.1 : Nat)),(11,I (m + q.2 : Nat))])
  (fun q => [(5,g,⟨206,8,(P ++ [u] ++ V ++ S).map aZ,1⟩)]) (fun q => q.2 - q.1) (0,V.length) ⟨Nat.zero_le _,Nat.le_refl _,by simp,by simp⟩ ⟨rfl,rfl,rfl,rfl,rfl,rfl,trivial⟩ ?_
 rintro ⟨p,q⟩ s1 ⟨hpq,hqV,h1,h2⟩
 simp only at hpq hqV h1 h2
 dsimp only
 repeat refine aa rfl ?_
 refine ab rfl ?_ ?_<;>intro h
 ·have hlt : p < q := by have := of_decide_eq_true h;omega
  clear h
  obtain ⟨f,hf⟩ : ∃ f,f = (p + q) / 2 := ⟨_,rfl⟩
  obtain ⟨v,hv⟩ := aH (show f < V.length by omega)
  have hmid : IntKind.i64.wrap (IntKind.u64.wrap (IntKind.i64.wrap (((m + p : Nat) : Int) + ((m + q : Nat) : Int))) / 2 ^ Int.toNat 1) = ((m + f : Nat) : Int) := by
   rw [sa _ _ (by omega)];omega
  have hr1 : ((P ++ [u] ++ V ++ S).map aZ)[m + f]? = some (aZ v) := by rw [← hm];exact BT (U := [u]) hv
  have hr2 : ((P ++ [u] ++ V ++ S).map aZ)[P.length]? = some (aZ u) := BS (U := [u]) (i := 0) rfl
  have hw : IntKind.i64.wrap (((m + f : Nat) : Int) + 1) = ((m + (f + 1) : Nat) : Int) := by rw [wrap_i64 (by omega) (by omega)];omega
  repeat refine aa rfl ?_
  rw [hmid]
  refine ah 11 [40,41,42,43,44,45,46,47,48,49,50] (by decide +kernel) ?_
  repeat refine aa rfl ?_
  refine gS rfl rfl rfl rfl rfl rfl rfl rfl rfl ?_
  rw [Int.toNat_natCast,Nat.zero_add (m + f)]
  refine bp rfl rfl (bG rfl rfl rfl hr1 rfl) ?_
  repeat refine aa rfl ?_
  refine gS rfl rfl rfl rfl rfl rfl rfl rfl rfl ?_
  rw [Int.toNat_natCast,Nat.zero_add P.length]
  refine bp rfl rfl (bG rfl rfl rfl hr2 rfl) ?_
  repeat refine aa rfl ?_
  refine bp rfl rfl (kF rfl (fY (hs v (List.mem_cons_of_mem _ (List.mem_of_getElem? hv))) (hs u (List.mem_cons_self ..))) rfl (by repeat' constructor) rfl rfl) ?_
  repeat refine aa rfl ?_
  refine ab rfl ?_ ?_<;>intro h
  ·have hb := h
   have hlt2 : aJ v < aJ u := by have := (cg _).1 (of_decide_eq_true hb);grind
   clear hb h
   repeat refine aa rfl ?_
   refine ⟨(f + 1,q),⟨by simp only;omega,hqV,fun y hy => ?_,h2⟩,by simp only;omega,rfl,rfl,rfl,congrArg I hw,rfl,rfl,trivial⟩
   have := js hV hv y hy
   grind
  ·have hb := h
   have hge2 : aJ u ≤ aJ v := by
    have h9 := of_decide_eq_false hb
    rw [cg] at h9
    grind
   clear hb h
   repeat refine aa rfl ?_
   refine ⟨(p,f),⟨by simp only;omega,by simp only;omega,h1,fun y hy => ?_⟩,by simp only;omega,rfl,rfl,rfl,rfl,rfl,rfl,trivial⟩
   have := jr hV hv y hy
   grind
 ·have he : p = q := by have := of_decide_eq_false h;omega
  clear h
  subst he
  have hwp : IntKind.i64.wrap (((m + p : Nat) : Int) - 1) = ((P.length + p : Nat) : Int) := by rw [wrap_i64 (by omega) (by omega)];omega
  have hr0 : P ++ [u] ++ V ++ S = dM P V u S 0 := by rw [dM];simp
  repeat refine aa rfl ?_
  refine ao (fun r => r ≤ p) (fun r => [(0,.als 5 g 0 N),(10,I (m + p : Nat)),(13,I (P.length + r : Nat))]) (fun r => [(5,g,⟨206,8,(dM P V u S r).map aZ,1⟩)]) (fun r => p - r) 0 (Nat.zero_le _) ⟨rfl,rfl,rfl,by rw [← hr0];rfl,trivial⟩ ?_
  intro r s2 hr
  repeat refine aa rfl ?_
  rw [hwp]
  refine ab rfl ?_ ?_<;>intro h
  ·have hrp : r < p := by have := of_decide_eq_true h;omega
   clear h
   obtain ⟨v,hv⟩ := aH (show r < V.length by omega)
   have hw : IntKind.i64.wrap (((P.length + r : Nat) : Int) + 1) = ((P.length + r + 1 : Nat) : Int) := by rw [wrap_i64 (by omega) (by omega)];omega
   repeat refine aa rfl ?_
   refine bj 15 0 [61,62,63,64,65,66,67,68,69,70,71,72,73,74,75] [2,3,4] (by decide +kernel) rfl ?_
   repeat refine aa rfl ?_
   rw [hw]
   refine gS rfl rfl rfl rfl rfl rfl rfl rfl rfl ?_
   rw [Int.toNat_natCast,Nat.zero_add (P.length + r + 1)]
   refine bp rfl rfl (bG rfl rfl rfl (p8 hv) rfl) ?_
   repeat refine aa rfl ?_
   refine gS rfl rfl rfl rfl rfl rfl rfl rfl rfl ?_
   rw [Int.toNat_natCast,Nat.zero_add (P.length + r)]
   refine bp rfl rfl (bG rfl rfl rfl (p7 hv) rfl) ?_
   repeat refine aa rfl ?_
   refine gS rfl rfl rfl rfl rfl rfl rfl rfl rfl ?_
   rw [Int.toNat_natCast,Nat.zero_add (P.length + r)]
   repeat refine aa rfl ?_
   refine be (bc (kd' := 1) rfl rfl rfl (p7 hv) rfl rfl (by repeat' constructor) rfl rfl rfl rfl ?_)
   refine gS rfl rfl rfl rfl rfl rfl rfl rfl rfl ?_
   rw [Int.toNat_natCast,Nat.zero_add (P.length + r + 1)]
   refine be (bc (kd' := 1) rfl rfl rfl (row := aZ v) (by
    show (((dM P V u S r).map aZ).set (P.length + r) _)[P.length + r + 1]? = _
    rw [List.getElem?_set_ne (by omega)];exact p8 hv) rfl rfl (by repeat' constructor) rfl rfl rfl rfl ?_)
   repeat refine aa rfl ?_
   refine ⟨r + 1,hrp,by omega,rfl,rfl,congrArg I hw,?_,trivial⟩
   refine Eq.trans (b := (g,some (Cont.mk 206 8 ((((dM P V u S r).map aZ).set (P.length + r) (aZ v)).set (P.length + r + 1) (aZ u)) 1))) rfl ?_
   rw [← List.map_set,← List.map_set,w7 hv]
  ·have hrp : r = p := by have := of_decide_eq_false h;omega
   clear h
   subst hrp
   have hm2 := mW hV (fun y hy => Rat.le_of_lt (h1 y hy)) h2
   have hp2 := pP V u r
   rw [dM]
   repeat refine aa rfl ?_
   exact pq rfl (hK s2 _ hp2 (wB h1) hm2)
set_option maxRecDepth 20000 in
theorem zd {K : St → Prop} {s : St} {d g N : Nat} {x y z n c : Operand} {tys : Array TypeId} {ty : TypeId} {pos : String} {af : Array Edge} (P U : List BN) (v : BN) (S : List BN) (hU1 : U.length ≠ 1) (hU : eg aJ U) (hs : ∀ p ∈ v :: U,p.at'.sz 7000000) (hN : N = (P ++ U ++ [v] ++ S).length) (hN1 : N ≤ 1000)
  (hx : s.ev x = .als 5 g 0 N) (hy : s.ev y = I P.length) (hz : s.ev z = I (P.length + U.length : Nat)) (hn : s.ev n = I (P.length + U.length + 1 : Nat)) (hc : s.ev c = .clo 205 [])
  (ho : FitO s [(5,g,⟨206,8,(P ++ U ++ [v] ++ S).map aZ,1⟩)])
  (hK : ∀ (s1 : St) (W : List BN),W.Perm (U ++ [v]) → (∀ c,ci aJ c W = ci aJ c (U ++ [v])) → eg aJ W → K (({ reg := s.reg,own := (s1.over [] [(5,g,⟨206,8,(P ++ W ++ S).map aZ,1⟩)]).own } : St).putR d (.tup []))) :
  Sm Tryz.prog lay.get s ⟨some d,.call ⟨.value (.func 227),#[x,y,z,n,c],tys⟩,ty,pos,af,none⟩ K := by
 have hlen : N = P.length + U.length + 1 + S.length := by rw [hN];simp;omega
 obtain ⟨m,hm⟩ : ∃ m,m = P.length + U.length := ⟨_,rfl⟩
 rw [← hm] at hz hn hlen
 refine bB layOk rfl rfl Tryz.func227 rfl (by decide) rfl rfl ?_
 show PWP _ _ _ _ (aP s (([x,y,z,n,c] : List Operand).map s.ev ++ []))
 rw [show (([x,y,z,n,c] : List Operand).map s.ev ++ ([] : List PV)) = [.als 5 g 0 N,I P.length,I m,I (m + 1 : Nat),.clo 205 []] by simp [hx,hy,hz,hn,hc]]
 rw [show aP s [.als 5 g 0 N,I P.length,I m,I (m + 1 : Nat),.clo 205 []] = aP (s.over [] [(5,g,⟨206,8,(P ++ U ++ [v] ++ S).map aZ,1⟩)]) [.als 5 g 0 N,I P.length,I m,I (m + 1 : Nat),.clo 205 []] by rw [Fit.over (l := []) ho]]
 have hwa : IntKind.i64.wrap (((m : Nat) : Int) - (P.length : Nat)) = (U.length : Nat) := by rw [wrap_i64 (by omega) (by omega)];omega
 have hwb : IntKind.i64.wrap (((m + 1 : Nat) : Int) - (m : Nat)) = 1 := by rw [wrap_i64 (by omega) (by omega)];omega
 repeat refine aa rfl ?_
 rw [hwa]
 refine ab rfl ?_ ?_<;>intro h
 ·have := of_decide_eq_true h
  omega
 clear h
 repeat refine aa rfl ?_
 rw [hwb]
 repeat refine aa rfl ?_
 refine ao (fun q : Nat × Nat => q.1 ≤ q.2 ∧ q.2 ≤ U.length ∧ (∀ y ∈ U.take q.1,aJ y ≤ aJ v) ∧ (∀ y ∈ U.drop q.2,aJ v < aJ y)) (fun q => [(0,.als 5 g 0 N),(2,I m),(4,.clo 205 []),(14,I (P.length + q.1 : Nat)),(15,I (P.length + q.2 : Nat))])
  (fun q => [(5,g,⟨206,8,(P ++ U ++ [v] ++ S).map aZ,1⟩)]) (fun q => q.2 - q.1) (0,U.length) ⟨Nat.zero_le _,Nat.le_refl _,by simp,by simp⟩ ⟨rfl,rfl,rfl,rfl,by rw [hm];rfl,rfl,trivial⟩ ?_
 rintro ⟨p,q⟩ s1 ⟨hpq,hqV,h1,h2⟩
 simp only at hpq hqV h1 h2
 dsimp only
 repeat refine aa rfl ?_
 refine ab rfl ?_ ?_<;>intro h
 ·have hlt : p < q := by have := of_decide_eq_true h;omega
  clear h
  obtain ⟨f,hf⟩ : ∃ f,f = (p + q) / 2 := ⟨_,rfl⟩
  obtain ⟨u,hu⟩ := aH (show f < U.length by omega)
  have hmid : IntKind.i64.wrap (IntKind.u64.wrap (IntKind.i64.wrap (((P.length + p : Nat) : Int) + ((P.length + q : Nat) : Int))) / 2 ^ Int.toNat 1) = ((P.length + f : Nat) : Int) := by
   rw [sa _ _ (by omega)];omega
  have hr1 : ((P ++ U ++ [v] ++ S).map aZ)[P.length + f]? = some (aZ u) := BS hu
  have hr2 : ((P ++ U ++ [v] ++ S).map aZ)[m]? = some (aZ v) := by rw [hm];exact BT (V := [v]) (i := 0) rfl
  have hw : IntKind.i64.wrap (((P.length + f : Nat) : Int) + 1) = ((P.length + (f + 1) : Nat) : Int) := by rw [wrap_i64 (by omega) (by omega)];omega
  repeat refine aa rfl ?_
  rw [hmid]
  refine ah 12 [92,93,94,95,96,97,98,99,100,101,102,103] (by decide +kernel) ?_
  repeat refine aa rfl ?_
  refine gS rfl rfl rfl rfl rfl rfl rfl rfl rfl ?_
  rw [Int.toNat_natCast,Nat.zero_add m]
  refine bp rfl rfl (bG rfl rfl rfl hr2 rfl) ?_
  repeat refine aa rfl ?_
  refine gS rfl rfl rfl rfl rfl rfl rfl rfl rfl ?_
  rw [Int.toNat_natCast,Nat.zero_add (P.length + f)]
  refine bp rfl rfl (bG rfl rfl rfl hr1 rfl) ?_
  repeat refine aa rfl ?_
  refine bp rfl rfl (kF rfl (fY (hs v (List.mem_cons_self ..)) (hs u (List.mem_cons_of_mem _ (List.mem_of_getElem? hu)))) rfl (by repeat' constructor) rfl rfl) ?_
  repeat refine aa rfl ?_
  refine ab rfl ?_ ?_<;>intro h
  ·have hge2 : aJ u ≤ aJ v := by
    have h9 : ¬ sgn (aJ v - aJ u) < 0 := by simpa using h
    rw [cg] at h9
    grind
   clear h
   repeat refine aa rfl ?_
   refine ⟨(f + 1,q),⟨by simp only;omega,hqV,fun y hy => ?_,h2⟩,by simp only;omega,rfl,rfl,rfl,congrArg I hw,rfl,rfl,trivial⟩
   have := js hU hu y hy
   grind
  ·have hlt2 : aJ v < aJ u := by
    have h9 : sgn (aJ v - aJ u) < 0 := by simpa using h
    have := (cg _).1 h9
    grind
   clear h
   repeat refine aa rfl ?_
   refine ⟨(p,f),⟨by simp only;omega,by simp only;omega,h1,fun y hy => ?_⟩,by simp only;omega,rfl,rfl,rfl,rfl,rfl,rfl,trivial⟩
   have := jr hU hu y hy
   grind
 ·have he : p = q := by have := of_decide_eq_false h;omega
  clear h
  subst he
  have hr0 : P ++ U ++ [v] ++ S = dM P U v S U.length := by rw [dM,List.take_length,List.drop_length];simp
  repeat refine aa rfl ?_
  refine ao (fun r => p ≤ r ∧ r ≤ U.length) (fun r => [(0,.als 5 g 0 N),(14,I (P.length + p : Nat)),(17,I (P.length + r : Nat))]) (fun r => [(5,g,⟨206,8,(dM P U v S r).map aZ,1⟩)]) (fun r => r) U.length ⟨hqV,Nat.le_refl _⟩ ⟨rfl,rfl,by rw [← hm];rfl,by rw [← hr0];rfl,trivial⟩ ?_
  intro r' s2 ⟨hr,hrU⟩
  repeat refine aa rfl ?_
  refine ab rfl ?_ ?_<;>intro h
  ·have hrp : p < r' := by have := of_decide_eq_true h;omega
   clear h
   obtain ⟨r,rfl⟩ : ∃ r,r' = r + 1 := ⟨r' - 1,by omega⟩
   obtain ⟨u,hu⟩ := aH (show r < U.length by omega)
   have hw : IntKind.i64.wrap (((P.length + (r + 1) : Nat) : Int) - 1) = ((P.length + r : Nat) : Int) := by rw [wrap_i64 (by omega) (by omega)];omega
   repeat refine aa rfl ?_
   refine bj 15 0 [113,114,115,116,117,118,119,120,121,122,123,124,125,126,127] [2,3,4] (by decide +kernel) rfl ?_
   repeat refine aa rfl ?_
   rw [hw]
   refine gS rfl rfl rfl rfl rfl rfl rfl rfl rfl ?_
   rw [Int.toNat_natCast,Nat.zero_add (P.length + r)]
   refine bp rfl rfl (bG rfl rfl rfl (np hu) rfl) ?_
   repeat refine aa rfl ?_
   refine gS rfl rfl rfl rfl rfl rfl rfl rfl rfl ?_
   rw [Int.toNat_natCast,Nat.zero_add (P.length + (r + 1))]
   refine bp rfl rfl (bG rfl rfl rfl (nq hu) rfl) ?_
   repeat refine aa rfl ?_
   refine gS rfl rfl rfl rfl rfl rfl rfl rfl rfl ?_
   rw [Int.toNat_natCast,Nat.zero_add (P.length + (r + 1))]
   repeat refine aa rfl ?_
   refine be (bc (kd' := 1) rfl rfl rfl (nq hu) rfl rfl (by repeat' constructor) rfl rfl rfl rfl ?_)
   refine gS rfl rfl rfl rfl rfl rfl rfl rfl rfl ?_
   rw [Int.toNat_natCast,Nat.zero_add (P.length + r)]
   refine be (bc (kd' := 1) rfl rfl rfl (row := aZ u) (by
    show (((dM P U v S (r + 1)).map aZ).set (P.length + (r + 1)) _)[P.length + r]? = _
    rw [List.getElem?_set_ne (by omega)];exact np hu) rfl rfl (by repeat' constructor) rfl rfl rfl rfl ?_)
   repeat refine aa rfl ?_
   refine ⟨r,⟨by omega,by omega⟩,by omega,rfl,rfl,congrArg I hw,?_,trivial⟩
   refine Eq.trans (b := (g,some (Cont.mk 206 8 ((((dM P U v S (r + 1)).map aZ).set (P.length + r + 1) (aZ u)).set (P.length + r) (aZ v)) 1))) rfl ?_
   rw [← List.map_set,← List.map_set,rj hu]
  ·have hrp : r' = p := by have := of_decide_eq_false h;omega
   clear h
   subst hrp
   have hm2 := mW hU h1 (fun y hy => Rat.le_of_lt (h2 y hy))
   have hp2 := (pP U v r').trans (List.perm_append_comm (l₁ := [v]) (l₂ := U))
   rw [dM]
   repeat refine aa rfl ?_
   exact pq rfl (hK s2 _ hp2 (wC h2) hm2)
theorem p4 {P : Program} {L : Lay} {Q : Exit → St → Prop} {s : St} {ι : Type} {x y : Code} (X : ι → Prop) (regs : ι → List (Nat × PV)) (owns : ι → List (Nat × Nat × Cont)) (h1 : PWP P L x (au (fun s' => ∃ i,X i ∧ Fit s' (regs i) (owns i)) Q) s) (h2 : ∀ i,X i → ∀ s : St,PWP P L y Q (s.over (regs i) (owns i))) : PWP P L x (au (fun s' => PWP P L y Q s') Q) s := by
 refine PWP.mono ?_ _ h1
 intro e s' h
 unfold au at h ⊢
 cases e
 case normal =>
  obtain ⟨i,hX,hF⟩ : ∃ i,X i ∧ Fit s' (regs i) (owns i) := h
  have := h2 i hX s'
  rwa [Fit.over hF] at this
 all_goals exact h
theorem zy {F : St → Prop} {Q : Exit → St → Prop} {s : St} : au F Q .normal s = F s := by unfold au;rfl
theorem jy {F : St → Prop} {Q : Exit → St → Prop} {e : Exit} {s : St} (h : e ≠ .normal) : au F Q e s = Q e s := by
 unfold au
 cases e <;> first | rfl | exact absurd rfl h
theorem sw {P : Program} {L : Lay} {Q : Exit → St → Prop} {s : St} {ι : Type} {x1 x2 y : Code} (X : ι → Prop) (regs : ι → List (Nat × PV)) (owns : ι → List (Nat × Nat × Cont)) (h1 : PWP P L x1 (au (fun s' => PWP P L x2 (au (fun s' => ∃ i,X i ∧ Fit s' (regs i) (owns i)) Q) s') (au (fun s' => ∃ i,X i ∧ Fit s' (regs i) (owns i)) Q)) s) (h2 : ∀ i,X i → ∀ s : St,PWP P L y Q (s.over (regs i) (owns i))) : PWP P L x1 (au (fun s' => PWP P L x2 (au (fun s' => PWP P L y Q s') Q) s') (au (fun s' => PWP P L y Q s') Q)) s := by
 refine PWP.mono (fun e s' h => ?_) _ h1
 by_cases he : e = .normal
 ·subst he
  rw [zy] at h ⊢
  exact p4 X regs owns h h2
 ·rw [jy he,jy he] at h
  rw [jy he,jy he]
  exact h
def BK (U V : List BN) (a m n lo c : Nat) : Prop := c = lo ∨ ∃ s' u v,c = a + s' + 1 ∧ U[s']? = some u ∧ V[n - c - m]? = some v ∧ aJ u ≤ aJ v
def BO (U V : List BN) (a m n hi c : Nat) : Prop := c = hi ∨ ∃ t' v u,n = c + m + t' + 1 ∧ V[t']? = some v ∧ U[c - a]? = some u ∧ aJ v < aJ u
theorem ya {U V : List BN} (hU : eg aJ U) (hV : eg aJ V) {s t : Nat} (h : s = 0 ∨ t = V.length ∨ ∃ s' u v,s = s' + 1 ∧ U[s']? = some u ∧ V[t]? = some v ∧ aJ u < aJ v) : AY aJ (U.take s) (V.drop t) := by
 intro x hx y hy
 rcases h with rfl | rfl | ⟨s',u,v,rfl,hu,hv,huv⟩
 ·simp at hx
 ·simp at hy
 ·have h1 := js hU hu x hx
  have h2 := jr hV hv y hy
  grind
set_option maxRecDepth 20000 in
theorem ze {w : Nat} (ih : ∀ {K : St → Prop} {s : St} {d g N : Nat} {x y z n c : Operand} {tys : Array TypeId} {ty : TypeId} {pos : String} {af : Array Edge} (P U V S : List BN),U.length + V.length ≤ w → U ≠ [] → V ≠ [] → eg aJ U → eg aJ V → (∀ p ∈ U ++ V,p.at'.sz 7000000) → N = (P ++ U ++ V ++ S).length → N ≤ 1000 →
  s.ev x = .als 5 g 0 N → s.ev y = I P.length → s.ev z = I (P.length + U.length : Nat) → s.ev n = I (P.length + U.length + V.length : Nat) → s.ev c = .clo 205 [] → FitO s [(5,g,⟨206,8,(P ++ U ++ V ++ S).map aZ,1⟩)] →
  (∀ (s1 : St) (W : List BN),W.Perm (U ++ V) → (∀ c,ci aJ c W = ci aJ c (U ++ V)) → eg aJ W → K (({ reg := s.reg,own := (s1.over [] [(5,g,⟨206,8,(P ++ W ++ S).map aZ,1⟩)]).own } : St).putR d (.tup []))) →
  Sm Tryz.prog lay.get s ⟨some d,.call ⟨.value (.func 227),#[x,y,z,n,c],tys⟩,ty,pos,af,none⟩ K)
  {K : St → Prop} {s : St} {d g N : Nat} {x y z n c : Operand} {tys : Array TypeId} {ty : TypeId} {pos : String} {af : Array Edge} (P U V S : List BN) (hw : U.length + V.length ≤ w + 1) (hU2 : 2 ≤ U.length) (hV2 : 2 ≤ V.length) (hU : eg aJ U) (hV : eg aJ V) (hs : ∀ p ∈ U ++ V,p.at'.sz 7000000) (hN : N = (P ++ U ++ V ++ S).length) (hN1 : N ≤ 1000)
  (hx : s.ev x = .als 5 g 0 N) (hy : s.ev y = I P.length) (hz : s.ev z = I (P.length + U.length : Nat)) (hn : s.ev n = I (P.length + U.length + V.length : Nat)) (hc : s.ev c = .clo 205 [])
  (ho : FitO s [(5,g,⟨206,8,(P ++ U ++ V ++ S).map aZ,1⟩)])
  (hK : ∀ (s1 : St) (W : List BN),W.Perm (U ++ V) → (∀ c,ci aJ c W = ci aJ c (U ++ V)) → eg aJ W → K (({ reg := s.reg,own := (s1.over [] [(5,g,⟨206,8,(P ++ W ++ S).map aZ,1⟩)]).own } : St).putR d (.tup []))) :
  Sm Tryz.prog lay.get s ⟨some d,.call ⟨.value (.func 227),#[x,y,z,n,c],tys⟩,ty,pos,af,none⟩ K := by
 have hlen : N = P.length + U.length + V.length + S.length := by rw [hN];simp;omega
 obtain ⟨m,hm⟩ : ∃ m,m = P.length + U.length := ⟨_,rfl⟩
 obtain ⟨b,hb⟩ : ∃ b,b = m + V.length := ⟨_,rfl⟩
 rw [← hm] at hz hn hlen
 rw [← hb] at hn
 refine bB layOk rfl rfl Tryz.func227 rfl (by decide) rfl rfl ?_
 show PWP _ _ _ _ (aP s (([x,y,z,n,c] : List Operand).map s.ev ++ []))
 rw [show (([x,y,z,n,c] : List Operand).map s.ev ++ ([] : List PV)) = [.als 5 g 0 N,I P.length,I m,I b,.clo 205 []] by simp [hx,hy,hz,hn,hc]]
 rw [show aP s [.als 5 g 0 N,I P.length,I m,I b,.clo 205 []] = aP (s.over [] [(5,g,⟨206,8,(P ++ U ++ V ++ S).map aZ,1⟩)]) [.als 5 g 0 N,I P.length,I m,I b,.clo 205 []] by rw [Fit.over (l := []) ho]]
 have hwa : IntKind.i64.wrap (((m : Nat) : Int) - (P.length : Nat)) = (U.length : Nat) := by rw [wrap_i64 (by omega) (by omega)];omega
 have hwb : IntKind.i64.wrap (((b : Nat) : Int) - (m : Nat)) = (V.length : Nat) := by rw [wrap_i64 (by omega) (by omega)];omega
 obtain ⟨D,hD⟩ : ∃ D,D = (P.length + b) / 2 := ⟨_,rfl⟩
 have hmid : IntKind.i64.wrap (IntKind.u64.wrap (IntKind.i64.wrap (((P.length : Nat) : Int) + ((b : Nat) : Int))) / 2 ^ Int.toNat 1) = ((D : Nat) : Int) := by rw [sa _ _ (by omega),hD]
 have hnn : IntKind.i64.wrap (((D : Nat) : Int) + (m : Nat)) = ((D + m : Nat) : Int) := by rw [wrap_i64 (by omega) (by omega)];omega
 have hpp : IntKind.i64.wrap (((D + m : Nat) : Int) - 1) = ((D + m - 1 : Nat) : Int) := by rw [wrap_i64 (by omega) (by omega)];omega
 repeat refine aa rfl ?_
 rw [hwa]
 refine ab rfl ?_ ?_<;>intro h
 ·have := of_decide_eq_true h
  omega
 clear h
 repeat refine aa rfl ?_
 rw [hwb]
 refine ab rfl ?_ ?_<;>intro h
 ·have := of_decide_eq_true h
  omega
 clear h
 repeat refine aa rfl ?_
 rw [hmid]
 repeat refine aa rfl ?_
 rw [hnn]
 refine p4 (fun q : Nat × Nat => P.length ≤ q.1 ∧ q.1 ≤ q.2 ∧ q.2 ≤ m ∧ q.2 ≤ D ∧ D + m ≤ q.1 + b ∧ (q.1 = P.length ∨ q.1 + b = D + m) ∧ (q.2 = D ∨ q.2 = m)) (fun q => [(0,.als 5 g 0 N),(1,I P.length),(2,I m),(3,I b),(4,.clo 205 []),(18,I D),(19,I (D + m : Nat)),(20,I (q.1 : Nat)),(21,I (q.2 : Nat))]) (fun _ => [(5,g,⟨206,8,(P ++ U ++ V ++ S).map aZ,1⟩)]) ?_ ?_
 ·refine ab rfl ?_ ?_<;>intro h
  ·have hgt : D < m := by have := of_decide_eq_true h;omega
   clear h
   have hnb : IntKind.i64.wrap (((D + m : Nat) : Int) - (b : Nat)) = ((D + m - b : Nat) : Int) := by rw [wrap_i64 (by omega) (by omega)];omega
   repeat refine aa rfl ?_
   exact ⟨(D + m - b,D),⟨by simp only;omega,by simp only;omega,by simp only;omega,by simp only;omega,by simp only;omega,.inr (by simp only;omega),.inl rfl⟩,rfl,rfl,rfl,rfl,rfl,rfl,rfl,congrArg I hnb,rfl,rfl,trivial⟩
  ·have hle : m ≤ D := by have := of_decide_eq_false h;omega
   clear h
   repeat refine aa rfl ?_
   exact ⟨(P.length,m),⟨by simp only;omega,by simp only;omega,by simp only;omega,by simp only;omega,by simp only;omega,.inl rfl,.inr rfl⟩,rfl,rfl,rfl,rfl,rfl,rfl,rfl,rfl,rfl,rfl,trivial⟩
 rintro ⟨lo,hi⟩ ⟨q1,q2,q3,q4,q5,q6,q7⟩ s1
 simp only at q1 q2 q3 q4 q5 q6 q7
 dsimp only
 repeat refine aa rfl ?_
 rw [hpp]
 refine ao (fun q : Nat × Nat => lo ≤ q.1 ∧ q.1 ≤ q.2 ∧ q.2 ≤ hi ∧ BK U V P.length m (D + m) lo q.1 ∧ BO U V P.length m (D + m) hi q.2) (fun q => [(0,.als 5 g 0 N),(1,I P.length),(2,I m),(3,I b),(4,.clo 205 []),(18,I D),(19,I (D + m : Nat)),(20,I (q.1 : Nat)),(21,I (q.2 : Nat)),(22,I (D + m - 1 : Nat))])
  (fun _ => [(5,g,⟨206,8,(P ++ U ++ V ++ S).map aZ,1⟩)]) (fun q => q.2 - q.1) (lo,hi) ⟨Nat.le_refl _,q2,Nat.le_refl _,.inl rfl,.inl rfl⟩ ⟨rfl,rfl,rfl,rfl,rfl,rfl,rfl,rfl,rfl,rfl,rfl,trivial⟩ ?_
 rintro ⟨st,rr⟩ s2 ⟨l1,l2,l3,hA,hB⟩
 simp only at l1 l2 l3 hA hB
 dsimp only
 repeat refine aa rfl ?_
 refine ab rfl ?_ ?_<;>intro h
 ·have hlt : st < rr := by have := of_decide_eq_true h;omega
  clear h
  obtain ⟨f,hf⟩ : ∃ f,f = (st + rr) / 2 := ⟨_,rfl⟩
  obtain ⟨u,hu⟩ := aH (show f - P.length < U.length by omega)
  obtain ⟨v,hv⟩ := aH (show D - 1 - f < V.length by omega)
  have hmf : IntKind.i64.wrap (IntKind.u64.wrap (IntKind.i64.wrap (((st : Nat) : Int) + ((rr : Nat) : Int))) / 2 ^ Int.toNat 1) = ((f : Nat) : Int) := by rw [sa _ _ (by omega),hf]
  have hpf : IntKind.i64.wrap (((D + m - 1 : Nat) : Int) - (f : Nat)) = ((m + (D - 1 - f) : Nat) : Int) := by rw [wrap_i64 (by omega) (by omega)];omega
  have hr1 : ((P ++ U ++ V ++ S).map aZ)[m + (D - 1 - f)]? = some (aZ v) := by rw [hm];exact BT hv
  have hr2 : ((P ++ U ++ V ++ S).map aZ)[f]? = some (aZ u) := by rw [show f = P.length + (f - P.length) by omega];exact BS hu
  have hw1 : IntKind.i64.wrap (((f : Nat) : Int) + 1) = ((f + 1 : Nat) : Int) := by rw [wrap_i64 (by omega) (by omega)];omega
  repeat refine aa rfl ?_
  rw [hmf]
  refine ah 14 [158,159,160,161,162,163,164,165,166,167,168,169,170,171] (by decide +kernel) ?_
  repeat refine aa rfl ?_
  rw [hpf]
  refine gS rfl rfl rfl rfl rfl rfl rfl rfl rfl ?_
  rw [Int.toNat_natCast,Nat.zero_add (m + (D - 1 - f))]
  refine bp rfl rfl (bG rfl rfl rfl hr1 rfl) ?_
  repeat refine aa rfl ?_
  refine gS rfl rfl rfl rfl rfl rfl rfl rfl rfl ?_
  rw [Int.toNat_natCast,Nat.zero_add f]
  refine bp rfl rfl (bG rfl rfl rfl hr2 rfl) ?_
  repeat refine aa rfl ?_
  refine bp rfl rfl (kF rfl (fY (hs v (List.mem_append_right _ (List.mem_of_getElem? hv))) (hs u (List.mem_append_left _ (List.mem_of_getElem? hu)))) rfl (by repeat' constructor) rfl rfl) ?_
  repeat refine aa rfl ?_
  refine ab rfl ?_ ?_<;>intro h
  ·have hge2 : aJ u ≤ aJ v := by
    have h9 : ¬ sgn (aJ v - aJ u) < 0 := by simpa using h
    rw [cg] at h9
    grind
   clear h
   repeat refine aa rfl ?_
   exact ⟨(f + 1,rr),⟨by simp only;omega,by simp only;omega,l3,.inr ⟨f - P.length,u,v,by omega,hu,by rw [show D + m - (f + 1) - m = D - 1 - f by omega];exact hv,hge2⟩,hB⟩,by simp only;omega,rfl,rfl,rfl,rfl,rfl,rfl,rfl,congrArg I hw1,rfl,rfl,rfl,trivial⟩
  ·have hlt2 : aJ v < aJ u := by
    have h9 : sgn (aJ v - aJ u) < 0 := by simpa using h
    have := (cg _).1 h9
    grind
   clear h
   repeat refine aa rfl ?_
   exact ⟨(st,f),⟨l1,by simp only;omega,by simp only;omega,hA,.inr ⟨D - 1 - f,v,u,by omega,hv,hu,hlt2⟩⟩,by simp only;omega,rfl,rfl,rfl,rfl,rfl,rfl,rfl,rfl,rfl,rfl,rfl,trivial⟩
 ·have he : st = rr := by have := of_decide_eq_false h;omega
  clear h
  subst he
  obtain ⟨k,hk⟩ : ∃ k,k = st - P.length := ⟨_,rfl⟩
  obtain ⟨j,hj⟩ : ∃ j,j = D - st := ⟨_,rfl⟩
  have c1 : x5 aJ (U.take k) (V.drop j) := by
   refine x_ hU hV ?_
   rcases hA with e | ⟨s',u,v,e,hu,hv,huv⟩
   ·rcases q6 with e2 | e2
    ·exact .inl (by omega)
    ·exact .inr (.inl (by omega))
   ·exact .inr (.inr ⟨s',u,v,by omega,hu,by rw [show j = D + m - st - m by omega];exact hv,huv⟩)
  have c2s : AY aJ (V.take j) (U.drop k) := by
   refine ya hV hU ?_
   rcases hB with e | ⟨t',v,u,e,hv,hu,huv⟩
   ·rcases q7 with e2 | e2
    ·exact .inl (by omega)
    ·exact .inr (.inl (by omega))
   ·exact .inr (.inr ⟨t',v,u,by omega,hv,by rw [hk];exact hu,huv⟩)
  have c2 : x5 aJ (V.take j) (U.drop k) := fun x hx y hy => Rat.le_of_lt (c2s x hx y hy)
  have hend : IntKind.i64.wrap (((D + m : Nat) : Int) - (st : Nat)) = ((m + j : Nat) : Int) := by rw [wrap_i64 (by omega) (by omega)];omega
  have hkl : (U.take k).length = k := by rw [List.length_take];omega
  have hjl : (V.take j).length = j := by rw [List.length_take];omega
  have hkd : (U.drop k).length = U.length - k := List.length_drop
  have hjd : (V.drop j).length = V.length - j := List.length_drop
  have eU : U.take k ++ U.drop k = U := List.take_append_drop _ _
  have eV : V.take j ++ V.drop j = V := List.take_append_drop _ _
  have hR0 : P ++ U ++ V ++ S = P ++ U.take k ++ U.drop k ++ V.take j ++ (V.drop j ++ S) := by
   have e1 : P ++ U ++ V ++ S = P ++ (U.take k ++ U.drop k) ++ (V.take j ++ V.drop j) ++ S := by rw [eU,eV]
   rw [e1];simp only [List.append_assoc]
  (repeat ((fail_if_success (with_reducible refine aM 39 ?_));refine cF rfl ?_))
  rw [hend]
  have hR1 : j = 0 ∨ k = U.length → P ++ U ++ V ++ S = P ++ U.take k ++ V.take j ++ (U.drop k ++ V.drop j ++ S) := by
   rintro (h | h)
   ·rw [hR0,h,List.take_zero,List.append_nil,List.append_nil];try simp only [List.append_assoc]
   ·rw [hR0,h,List.drop_length,List.append_nil,List.nil_append];try simp only [List.append_assoc]
  have hW1 : j = 0 ∨ k = 0 → eg aJ (U.take k ++ V.take j) := fun h => kJ (gz hU k) (gz hV j) fun x hx y hy => by
   rcases h with h | h
   ·rw [h] at hy;simp at hy
   ·rw [h] at hx;simp at hx
  have hW2 : j = V.length ∨ k = U.length → eg aJ (U.drop k ++ V.drop j) := fun h => kJ (gy hU k) (gy hV j) fun x hx y hy => by
   rcases h with h | h
   ·rw [h] at hy;simp at hy
   ·rw [h] at hx;simp at hx
  have hsT : ∀ p ∈ U.take k ++ V.take j,p.at'.sz 7000000 := fun p hp => by
   rcases List.mem_append.1 hp with h | h
   ·exact hs p (List.mem_append_left _ (List.mem_of_mem_take h))
   ·exact hs p (List.mem_append_right _ (List.mem_of_mem_take h))
  have hsD : ∀ p ∈ U.drop k ++ V.drop j,p.at'.sz 7000000 := fun p hp => by
   rcases List.mem_append.1 hp with h | h
   ·exact hs p (List.mem_append_left _ (List.mem_of_mem_drop h))
   ·exact hs p (List.mem_append_right _ (List.mem_of_mem_drop h))
  refine sw (fun _ : Unit => True) (fun _ => [(0,.als 5 g 0 N),(1,I P.length),(3,I b),(4,.clo 205 []),(18,I D),(20,I (st : Nat)),(24,I (m + j : Nat))]) (fun _ => [(5,g,⟨206,8,(P ++ U.take k ++ V.take j ++ (U.drop k ++ V.drop j ++ S)).map aZ,1⟩)]) ?_ ?_
  ·repeat refine aa rfl ?_
   refine fU rfl rfl rfl ?_ ?_<;>intro h
   ·have hlt : st < m := by have := of_decide_eq_true h;omega
    clear h
    repeat refine aa rfl ?_
    refine ab rfl ?_ ?_<;>intro h
    ·have hj0 : 0 < j := by have := of_decide_eq_true h;omega
     clear h
     rw [hR0]
     ((repeat ((fail_if_success (with_reducible refine aM 40 ?_));refine cF rfl ?_));refine ay 5 ?_)
     repeat refine aa rfl ?_
     refine aI rfl (AI (N := N) (P ++ U.take k) (U.drop k) (V.take j) (V.drop j ++ S) (by intro e;have := congrArg List.length e;rw [hkd] at this;have : U.length - k = 0 := this;omega) (by intro e;have := congrArg List.length e;rw [hjl] at this;have : j = 0 := this;omega) (by rw [← hR0];exact hN) hN1 rfl (congrArg (fun n : Nat => I n) (show st = (P ++ U.take k).length by rw [List.length_append];omega)) (congrArg (fun n : Nat => I n) (show m = (P ++ U.take k).length + (U.drop k).length by rw [List.length_append];omega)) (congrArg (fun n : Nat => I n) (show m + j = (P ++ U.take k).length + (U.drop k).length + (V.take j).length by rw [List.length_append];omega)) rfl ⟨rfl,trivial⟩ fun s4 => ?_)
     refine aD ?_
     repeat refine aa rfl ?_
     refine ⟨(),trivial,rfl,rfl,rfl,rfl,rfl,rfl,rfl,?_,trivial⟩
     rw [show P ++ U.take k ++ V.take j ++ (U.drop k ++ V.drop j ++ S) = P ++ U.take k ++ V.take j ++ U.drop k ++ (V.drop j ++ S) by simp only [List.append_assoc]]
     rfl
    ·have hj0 : j = 0 := by have := of_decide_eq_false h;omega
     clear h
     repeat refine aa rfl ?_
     exact ⟨(),trivial,rfl,rfl,rfl,rfl,rfl,rfl,rfl,by rw [← hR1 (.inl hj0)];rfl,trivial⟩
   ·have hge : k = U.length := by have := of_decide_eq_false h;omega
    clear h
    repeat refine aa rfl ?_
    exact ⟨(),trivial,rfl,rfl,rfl,rfl,rfl,rfl,rfl,by rw [← hR1 (.inr hge)];rfl,trivial⟩
  intro _ _ s3
  (repeat ((fail_if_success (with_reducible refine aM 41 ?_));refine cF rfl ?_))
  refine sw (fun W : List BN => W.Perm (U.take k ++ V.take j) ∧ (∀ c,ci aJ c W = ci aJ c (U.take k ++ V.take j)) ∧ eg aJ W) (fun _ => [(0,.als 5 g 0 N),(3,I b),(4,.clo 205 []),(18,I D),(24,I (m + j : Nat))]) (fun W => [(5,g,⟨206,8,(P ++ W ++ (U.drop k ++ V.drop j ++ S)).map aZ,1⟩)]) ?_ ?_
  ·have hE : P ++ U.take k ++ V.take j ++ (U.drop k ++ V.drop j ++ S) = P ++ (U.take k ++ V.take j) ++ (U.drop k ++ V.drop j ++ S) := by simp only [List.append_assoc]
   repeat refine aa rfl ?_
   refine fU rfl rfl rfl ?_ ?_<;>intro h
   ·have hk0 : 0 < k := by have := of_decide_eq_true h;omega
    clear h
    repeat refine aa rfl ?_
    refine ab rfl ?_ ?_<;>intro h
    ·have hj0 : 0 < j := by have := of_decide_eq_true h;omega
     clear h
     ((repeat ((fail_if_success (with_reducible refine aM 42 ?_));refine cF rfl ?_));refine ay 5 ?_)
     repeat refine aa rfl ?_
     refine aI rfl (ih (N := N) P (U.take k) (V.take j) (U.drop k ++ V.drop j ++ S) (by omega) (by intro e;have := congrArg List.length e;rw [hkl] at this;have : k = 0 := this;omega) (by intro e;have := congrArg List.length e;rw [hjl] at this;have : j = 0 := this;omega) (gz hU k) (gz hV j) hsT (by rw [hlen];simp only [List.length_append];omega) hN1 rfl rfl (congrArg (fun n : Nat => I n) (show st = P.length + (U.take k).length by omega)) (congrArg (fun n : Nat => I n) (show D = P.length + (U.take k).length + (V.take j).length by omega)) rfl ⟨rfl,trivial⟩ fun s4 W hp hf hs4 => ?_)
     refine aD ?_
     repeat refine aa rfl ?_
     exact ⟨W,⟨hp,hf,hs4⟩,rfl,rfl,rfl,rfl,rfl,rfl,trivial⟩
    ·have hj0 : j = 0 := by have := of_decide_eq_false h;omega
     clear h
     repeat refine aa rfl ?_
     exact ⟨U.take k ++ V.take j,⟨.refl _,fun _ => rfl,hW1 (.inl hj0)⟩,rfl,rfl,rfl,rfl,rfl,by rw [← hE];rfl,trivial⟩
   ·have hk0 : k = 0 := by have := of_decide_eq_false h;omega
    clear h
    repeat refine aa rfl ?_
    exact ⟨U.take k ++ V.take j,⟨.refl _,fun _ => rfl,hW1 (.inr hk0)⟩,rfl,rfl,rfl,rfl,rfl,by rw [← hE];rfl,trivial⟩
  rintro W1 ⟨p1,f1,s1W⟩ s5
  have hWl : W1.length = k + j := by rw [p1.length_eq,List.length_append];omega
  have fin : ∀ (W2 : List BN),W2.Perm (U.drop k ++ V.drop j) → (∀ c,ci aJ c W2 = ci aJ c (U.drop k ++ V.drop j)) → eg aJ W2 → ∀ s6 : St,K (({ reg := s.reg,own := (s6.over [] [(5,g,⟨206,8,(P ++ W1 ++ W2 ++ S).map aZ,1⟩)]).own } : St).putR d (.tup [])) := fun W2 p2 f2 s2W s6 => by
   obtain ⟨r1,r2⟩ := oa hU hV c1 c2 p1 p2 s1W s2W
   have := hK s6 (W1 ++ W2) r2 (qQ c2s f1 f2) r1
   rwa [show P ++ (W1 ++ W2) ++ S = P ++ W1 ++ W2 ++ S by simp only [List.append_assoc]] at this
  have hE2 : P ++ W1 ++ (U.drop k ++ V.drop j ++ S) = P ++ W1 ++ (U.drop k ++ V.drop j) ++ S := by simp only [List.append_assoc]
  repeat refine aa rfl ?_
  refine fU rfl rfl rfl ?_ ?_<;>intro h
  ·have hk1 : k < U.length := by have := of_decide_eq_true h;omega
   clear h
   repeat refine aa rfl ?_
   refine ab rfl ?_ ?_<;>intro h
   ·have hj1 : j < V.length := by have := of_decide_eq_true h;omega
    clear h
    rw [show P ++ W1 ++ (U.drop k ++ V.drop j ++ S) = P ++ W1 ++ U.drop k ++ V.drop j ++ S by simp only [List.append_assoc]]
    ((repeat ((fail_if_success (with_reducible refine aM 44 ?_));refine cF rfl ?_));refine ay 5 ?_)
    repeat refine aa rfl ?_
    refine aI rfl (ih (N := N) (P ++ W1) (U.drop k) (V.drop j) S (by omega) (by intro e;have := congrArg List.length e;rw [hkd] at this;have : U.length - k = 0 := this;omega) (by intro e;have := congrArg List.length e;rw [hjd] at this;have : V.length - j = 0 := this;omega) (gy hU k) (gy hV j) hsD (by rw [hlen];simp only [List.length_append];omega) hN1 rfl (congrArg (fun n : Nat => I n) (show D = (P ++ W1).length by rw [List.length_append];omega)) (congrArg (fun n : Nat => I n) (show m + j = (P ++ W1).length + (U.drop k).length by rw [List.length_append];omega)) (congrArg (fun n : Nat => I n) (show b = (P ++ W1).length + (U.drop k).length + (V.drop j).length by rw [List.length_append];omega)) rfl ⟨rfl,trivial⟩ fun s6 W2 p2 f2 s2W => ?_)
    refine aD ?_
    repeat refine aa rfl ?_
    exact b_ rfl (fin W2 p2 f2 s2W s6)
   ·have hj1 : j = V.length := by have := of_decide_eq_false h;omega
    clear h
    rw [hE2]
    repeat refine aa rfl ?_
    exact b_ rfl (fin _ (.refl _) (fun _ => rfl) (hW2 (.inl hj1)) s5)
  ·have hk1 : k = U.length := by have := of_decide_eq_false h;omega
   clear h
   rw [hE2]
   repeat refine aa rfl ?_
   exact b_ rfl (fin _ (.refl _) (fun _ => rfl) (hW2 (.inr hk1)) s5)
set_option maxRecDepth 20000 in
theorem xJ (w : Nat) : ∀ {K : St → Prop} {s : St} {d g N : Nat} {x y z n c : Operand} {tys : Array TypeId} {ty : TypeId} {pos : String} {af : Array Edge} (P U V S : List BN),U.length + V.length ≤ w → U ≠ [] → V ≠ [] → eg aJ U → eg aJ V → (∀ p ∈ U ++ V,p.at'.sz 7000000) → N = (P ++ U ++ V ++ S).length → N ≤ 1000 →
  s.ev x = .als 5 g 0 N → s.ev y = I P.length → s.ev z = I (P.length + U.length : Nat) → s.ev n = I (P.length + U.length + V.length : Nat) → s.ev c = .clo 205 [] → FitO s [(5,g,⟨206,8,(P ++ U ++ V ++ S).map aZ,1⟩)] →
  (∀ (s1 : St) (W : List BN),W.Perm (U ++ V) → (∀ c,ci aJ c W = ci aJ c (U ++ V)) → eg aJ W → K (({ reg := s.reg,own := (s1.over [] [(5,g,⟨206,8,(P ++ W ++ S).map aZ,1⟩)]).own } : St).putR d (.tup []))) →
  Sm Tryz.prog lay.get s ⟨some d,.call ⟨.value (.func 227),#[x,y,z,n,c],tys⟩,ty,pos,af,none⟩ K := by
 induction w with
 |zero =>
  intro K s d g N x y z n c tys ty pos af P U V S hw hU
  have : U.length = 0 := by omega
  exact absurd (List.length_eq_zero_iff.1 this) hU
 |succ w ih =>
  intro K s d g N x y z n c tys ty pos af P U V S hw hU0 hV0 hU hV hs hN hN1 hx hy hz hn hc ho hK
  by_cases h1 : U.length = 1
  ·obtain ⟨u,rfl⟩ := List.length_eq_one_iff.1 h1
   exact za P u V S hV (fun p hp => hs p hp) hN hN1 hx hy hz hn hc ho hK
  by_cases h2 : V.length = 1
  ·obtain ⟨v,rfl⟩ := List.length_eq_one_iff.1 h2
   exact zd P U v S h1 hU (fun p hp => hs p (by
    rcases List.mem_cons.1 hp with rfl | hp
    ·exact List.mem_append_right _ (List.mem_singleton_self _)
    ·exact List.mem_append_left _ hp)) hN hN1 hx hy hz hn hc ho hK
  have p1 : 0 < U.length := List.length_pos_iff.2 hU0
  have p2 : 0 < V.length := List.length_pos_iff.2 hV0
  exact ze ih P U V S hw (by omega) (by omega) hU hV hs hN hN1 hx hy hz hn hc ho hK
theorem r9 {A B S : List BN} {q : Nat} {x : BN} (h : B[q]? = some x) : ((A ++ B ++ S).map aZ)[A.length + q]? = some (aZ x) := by
 have hq := (List.getElem?_eq_some_iff.1 h).1
 rw [List.getElem?_map,List.append_assoc,List.getElem?_append_right (by omega),show A.length + q - A.length = q by omega,List.getElem?_append_left hq,h];rfl
theorem r_ {A B S : List BN} {q : Nat} {y : BN} (h : q < B.length) : (A ++ B ++ S).set (A.length + q) y = A ++ B.set q y ++ S := by
 rw [List.append_assoc,List.set_append_right _ _ (by omega),show A.length + q - A.length = q by omega,List.set_append_left _ _ h,List.append_assoc]
set_option maxRecDepth 20000 in
theorem n8 {K : St → Prop} {s : St} {d g N : Nat} {x y z c : Operand} {tys : Array TypeId} {ty : TypeId} {pos : String} {af : Array Edge} (A l S : List BN) (hN : N = (A ++ l ++ S).length) (hN1 : N ≤ 1000)
  (hx : s.ev x = .als 5 g 0 N) (hy : s.ev y = I A.length) (hz : s.ev z = I (A.length + l.length : Nat)) (hc : s.ev c = .clo 205 [])
  (hd : ∀ p ∈ l,p.at'.sz 7000000)
  (ho : FitO s [(5,g,⟨206,8,(A ++ l ++ S).map aZ,1⟩)])
  (hK : ∀ s1 : St,K (({ reg := s.reg,own := (s1.over [] [(5,g,⟨206,8,(A ++ aE aJ l ++ S).map aZ,1⟩)]).own } : St).putR d (.tup []))) :
  Sm Tryz.prog lay.get s ⟨some d,.call ⟨.value (.func 226),#[x,y,z,c],tys⟩,ty,pos,af,none⟩ K := by
 refine bB layOk rfl rfl Tryz.func226 rfl (by decide) rfl rfl ?_
 show PWP _ _ _ _ (aP s (([x,y,z,c] : List Operand).map s.ev ++ []))
 rw [show (([x,y,z,c] : List Operand).map s.ev ++ ([] : List PV)) = [.als 5 g 0 N,I A.length,I (A.length + l.length : Nat),.clo 205 []] by simp [hx,hy,hz,hc]]
 rw [show aP s [.als 5 g 0 N,I A.length,I (A.length + l.length : Nat),.clo 205 []] = aP (s.over [] [(5,g,⟨206,8,(A ++ l ++ S).map aZ,1⟩)]) [.als 5 g 0 N,I A.length,I (A.length + l.length : Nat),.clo 205 []] by rw [Fit.over (l := []) ho]]
 have hlen : N = A.length + l.length + S.length := by rw [hN];simp;omega
 have h1s : aE aJ (l.take 1) ++ l.drop 1 = l := by
  cases l with
  |nil => rfl
  |cons x r => rfl
 have hw0 : IntKind.i64.wrap (((A.length : Nat) : Int) + 1) = ((A.length + 1 : Nat) : Int) := by rw [wrap_i64 (by omega) (by omega)];omega
 repeat refine aa rfl ?_
 rw [hw0]
 refine ao (fun i => 1 ≤ i ∧ (i ≤ l.length ∨ i = 1)) (fun i => [(0,.als 5 g 0 N),(1,I A.length),(2,I (A.length + l.length : Nat)),(3,.clo 205 []),(8,I (A.length + i : Nat))])
  (fun i => [(5,g,⟨206,8,(A ++ (aE aJ (l.take i) ++ l.drop i) ++ S).map aZ,1⟩)]) (fun i => l.length + 1 - i) 1 ⟨Nat.le_refl _,.inr rfl⟩ ⟨rfl,rfl,rfl,rfl,rfl,by rw [h1s];rfl,trivial⟩ ?_
 rintro i s1 ⟨hi1,hi⟩
 repeat refine aa rfl ?_
 refine ab rfl ?_ ?_<;>intro h
 ·have hlt : i < l.length := by have := of_decide_eq_true h;omega
  clear h
  obtain ⟨p,hp⟩ := aH hlt
  have htk : l.take (i + 1) = l.take i ++ [p] := cd hp
  have hdr : l.drop i = p :: l.drop (i + 1) := dV hp
  have hnx : IntKind.i64.wrap (((A.length + i : Nat) : Int) + 1) = ((A.length + (i + 1) : Nat) : Int) := by rw [wrap_i64 (by omega) (by omega)];omega
  generalize hP : aE aJ (l.take i) = P at *
  have hPl : P.length = i := by rw [← hP,dR,List.length_take];omega
  have hstart : P ++ l.drop i = bx P p i ++ l.drop (i + 1) := by
   have hti : P.take i = P := List.take_of_length_le (by omega)
   have hdi : P.drop i = [] := List.drop_eq_nil_of_le (by omega)
   rw [hdr,bx,hti,hdi];simp
  repeat refine aa rfl ?_
  refine ao (fun j => j ≤ i ∧ ∀ q y,j ≤ q → P[q]? = some y → aJ p < aJ y) (fun j => [(0,.als 5 g 0 N),(1,I A.length),(2,I (A.length + l.length : Nat)),(3,.clo 205 []),(8,I (A.length + i : Nat)),(9,I (A.length + j : Nat))])
   (fun j => [(5,g,⟨206,8,(A ++ (bx P p j ++ l.drop (i + 1)) ++ S).map aZ,1⟩)]) (fun j => j) i ⟨Nat.le_refl _,fun q y hq hy => by rw [List.getElem?_eq_none (by omega)] at hy;cases hy⟩ ⟨rfl,rfl,rfl,rfl,rfl,rfl,by rw [hstart];rfl,trivial⟩ ?_
  rintro j s2 ⟨hj,hpre⟩
  repeat refine aa rfl ?_
  refine ah 17 [18,19,20,21,22,23,24,25,26,27,28,29,30,31,32,33,34] (by decide +kernel) ?_
  repeat refine aa rfl ?_
  refine fU rfl rfl rfl ?_ ?_<;>intro h
  ·have hj0 : 0 < j := by have := of_decide_eq_true h;omega
   clear h
   obtain ⟨k,rfl⟩ : ∃ k,j = k + 1 := ⟨j - 1,by omega⟩
   have hIl : (bx P p (k + 1)).length = i + 1 := by simp [bx];omega
   have hB1 : (bx P p (k + 1) ++ l.drop (i + 1))[k + 1]? = some p := by
    rw [List.getElem?_append_left (by omega),lz (by omega)]
   obtain ⟨y,hy1⟩ := aH (show k < P.length by omega)
   have hB2 : (bx P p (k + 1) ++ l.drop (i + 1))[k]? = some y := by
    rw [List.getElem?_append_left (by omega),ja (by omega) (by omega),hy1]
   have hrow := r9 (A := A) (S := S) hB1
   have hrow2 := r9 (A := A) (S := S) hB2
   have hym : y ∈ l := List.mem_of_mem_take ((cT aJ _).mem_iff.1 (hP ▸ List.mem_of_getElem? hy1))
   have hw1 : IntKind.i64.wrap (((A.length + (k + 1) : Nat) : Int) - 1) = ((A.length + k : Nat) : Int) := by rw [wrap_i64 (by omega) (by omega)];omega
   repeat refine aa rfl ?_
   refine gS rfl rfl rfl rfl rfl rfl rfl rfl rfl ?_
   rw [Int.toNat_natCast,Nat.zero_add (A.length + (k + 1))]
   refine bp rfl rfl (bG rfl rfl rfl hrow rfl) ?_
   repeat refine aa rfl ?_
   rw [hw1]
   refine gS rfl rfl rfl rfl rfl rfl rfl rfl rfl ?_
   rw [Int.toNat_natCast,Nat.zero_add (A.length + k)]
   refine bp rfl rfl (bG rfl rfl rfl hrow2 rfl) ?_
   repeat refine aa rfl ?_
   refine aY rfl rfl rfl (fY (hd p (List.mem_of_getElem? hp)) (hd y hym)) rfl rfl rfl ?_
   repeat refine aa rfl ?_
   refine ab rfl ?_ ?_<;>intro h
   ·have hlt2 : aJ p < aJ y := by have := (cg _).1 (of_decide_eq_true h);grind
    clear h
    repeat refine aa rfl ?_
    refine bj 15 0 [37,38,39,40,41,42,43,44,45,46,47,48,49,50,51] [2,3,4] (by decide +kernel) rfl ?_
    repeat refine aa rfl ?_
    rw [hw1]
    refine gS rfl rfl rfl rfl rfl rfl rfl rfl rfl ?_
    rw [Int.toNat_natCast,Nat.zero_add (A.length + k)]
    refine bp rfl rfl (bG rfl rfl rfl hrow2 rfl) ?_
    repeat refine aa rfl ?_
    refine gS rfl rfl rfl rfl rfl rfl rfl rfl rfl ?_
    rw [Int.toNat_natCast,Nat.zero_add (A.length + (k + 1))]
    refine bp rfl rfl (bG rfl rfl rfl hrow rfl) ?_
    repeat refine aa rfl ?_
    refine gS rfl rfl rfl rfl rfl rfl rfl rfl rfl ?_
    rw [Int.toNat_natCast,Nat.zero_add (A.length + (k + 1))]
    repeat refine aa rfl ?_
    refine be (bc (kd' := 1) rfl rfl rfl hrow rfl rfl (by repeat' constructor) rfl rfl rfl rfl ?_)
    refine gS rfl rfl rfl rfl rfl rfl rfl rfl rfl ?_
    rw [Int.toNat_natCast,Nat.zero_add (A.length + k)]
    refine be (bc (kd' := 1) rfl rfl rfl (row := aZ y) (by
     show (((A ++ (bx P p (k + 1) ++ l.drop (i + 1)) ++ S).map aZ).set (A.length + (k + 1)) _)[A.length + k]? = _
     rw [List.getElem?_set_ne (by omega)];exact hrow2) rfl rfl (by repeat' constructor) rfl rfl rfl rfl ?_)
    repeat refine aa rfl ?_
    refine ⟨k,⟨by omega,fun q z hq hz => ?_⟩,by omega,rfl,rfl,rfl,rfl,rfl,congrArg I hw1,?_,trivial⟩
    ·by_cases hqk : q = k
     ·subst hqk;rw [hy1] at hz;cases hz;exact hlt2
     ·exact hpre q z (by omega) hz
    ·refine Eq.trans (b := (g,some (Cont.mk 206 8 ((((A ++ (bx P p (k + 1) ++ l.drop (i + 1)) ++ S).map aZ).set (A.length + (k + 1)) (aZ y)).set (A.length + k) (aZ p)) 1))) rfl ?_
     rw [← List.map_set,← List.map_set,r_ (by rw [List.length_append];omega),r_ (by rw [List.length_set,List.length_append];omega),List.set_append_left _ _ (by omega),List.set_append_left _ _ (by rw [List.length_set];omega),lA (by omega) hy1]
   ·have hge2 : aJ y ≤ aJ p := by
     have h9 := of_decide_eq_false h
     rw [cg] at h9
     grind
    clear h
    have hpos : pX aJ P p = k + 1 := kE (by omega) hpre (.inr ⟨y,hy1,hge2⟩)
    have hins : aE aJ (l.take (i + 1)) = bx P p (k + 1) := by rw [htk,fM,hP,iC,hpos]
    repeat refine aa rfl ?_
    refine ⟨i + 1,⟨by omega,.inl (by omega)⟩,by omega,rfl,rfl,rfl,rfl,congrArg I hnx,?_,trivial⟩
    rw [hins];rfl
  ·have hj0 : j = 0 := by have := of_decide_eq_false h;omega
   subst hj0
   clear h
   have hpos : pX aJ P p = 0 := kE (by omega) hpre (.inl rfl)
   have hins : aE aJ (l.take (i + 1)) = bx P p 0 := by rw [htk,fM,hP,iC,hpos]
   repeat refine aa rfl ?_
   refine ⟨i + 1,⟨by omega,.inl (by omega)⟩,by omega,rfl,rfl,rfl,rfl,congrArg I hnx,?_,trivial⟩
   rw [hins];rfl
 ·have hge : l.length ≤ i := by have := of_decide_eq_false h;omega
  have hend : aE aJ (l.take i) ++ l.drop i = aE aJ l := by
   rw [List.take_of_length_le hge,List.drop_eq_nil_of_le hge,List.append_nil]
  rw [hend]
  repeat refine aa rfl ?_
  exact b_ rfl (hK s1)
def w8 (A B : List BN) : Nat → List BN
 |0 => A ++ B
 |1 => aE aJ A ++ B
 |_ => aE aJ A ++ aE aJ B
set_option maxRecDepth 20000 in
theorem qr {K : St → Prop} {s : St} {d g : Nat} {x z c : Operand} {tys : Array TypeId} {ty : TypeId} {pos : String} {af : Array Edge} (l : List BN) (hl : l.length ≤ 40)
  (hx : s.ev x = .als 5 g 0 (l.map aZ).length) (hz : s.ev z = I l.length) (hc : s.ev c = .clo 205 [])
  (hd : ∀ p ∈ l,p.at'.sz 7000000)
  (ho : FitO s [(5,g,⟨206,8,l.map aZ,1⟩)])
  (hK : ∀ s1 : St,K (({ reg := s.reg,own := (s1.over [] [(5,g,⟨206,8,(aE aJ l).map aZ,1⟩)]).own } : St).putR d (.tup []))) :
  Sm Tryz.prog lay.get s ⟨some d,.call ⟨.value (.func 219),#[x,z,c],tys⟩,ty,pos,af,none⟩ K := by
 rcases Nat.lt_or_ge l.length 20 with h20 | h20
 ·exact rE l (by omega) hx hz hc hd ho hK
 have hK2 : ∀ (s1 : St) (W : List BN),eg aJ W → (∀ c,ci aJ c W = ci aJ c l) → K (({ reg := s.reg,own := (s1.over [] [(5,g,⟨206,8,W.map aZ,1⟩)]).own } : St).putR d (.tup [])) := fun s1 W hs hf => by rw [uy hs hf];exact hK s1
 rw [List.length_map] at hx
 obtain ⟨A,hA⟩ : ∃ A,A = l.take 20 := ⟨_,rfl⟩
 obtain ⟨B,hB⟩ : ∃ B,B = l.drop 20 := ⟨_,rfl⟩
 have hAB : A ++ B = l := by rw [hA,hB];exact List.take_append_drop _ _
 have hAl : A.length = 20 := by rw [hA,List.length_take];omega
 have hBl : B.length = l.length - 20 := by rw [hB];exact List.length_drop
 have hdA : ∀ p ∈ A,p.at'.sz 7000000 := fun p hp => hd p (by rw [← hAB];exact List.mem_append_left _ hp)
 have hdB : ∀ p ∈ B,p.at'.sz 7000000 := fun p hp => hd p (by rw [← hAB];exact List.mem_append_right _ hp)
 have hn : l.length = 20 + B.length := by omega
 rw [hn] at hx hz
 rw [← hAB] at ho
 have hp0 : (aE aJ A ++ aE aJ B).Perm l := by rw [← hAB];exact (cT aJ A).append (cT aJ B)
 have hf0 : ∀ c,ci aJ c (aE aJ A ++ aE aJ B) = ci aJ c l := fun c => by rw [← hAB,bw,jV,jV,← bw]
 have hsA := dN aJ A
 have hsB := dN aJ B
 have hdS : ∀ p ∈ aE aJ A ++ aE aJ B,p.at'.sz 7000000 := fun p hp => hd p (hp0.mem_iff.1 hp)
 have hA2 : (aE aJ A).length = 20 := by rw [dR,hAl]
 have hB2 : (aE aJ B).length = B.length := dR aJ B
 refine bB layOk rfl rfl Tryz.func219 rfl (by decide) rfl rfl ?_
 show PWP _ _ _ _ (aP s (([x,z,c] : List Operand).map s.ev ++ []))
 rw [show (([x,z,c] : List Operand).map s.ev ++ ([] : List PV)) = [.als 5 g 0 (20 + B.length),I (20 + B.length : Nat),.clo 205 []] by simp [hx,hz,hc]]
 rw [show aP s [.als 5 g 0 (20 + B.length),I (20 + B.length : Nat),.clo 205 []] = aP (s.over [] [(5,g,⟨206,8,(A ++ B).map aZ,1⟩)]) [.als 5 g 0 (20 + B.length),I (20 + B.length : Nat),.clo 205 []] by rw [Fit.over (l := []) ho]]
 have hB20 : B.length ≤ 20 := by omega
 repeat refine aa rfl ?_
 refine ao (fun k : Nat => k ≤ 2 ∧ (k = 2 → B.length = 20)) (fun k => [(0,.als 5 g 0 (20 + B.length)),(1,I (20 + B.length : Nat)),(2,.clo 205 []),(6,I 20),(7,I (20 * k : Nat)),(8,I (20 * (k + 1) : Nat))])
  (fun k => [(5,g,⟨206,8,(w8 A B k).map aZ,1⟩)]) (fun k => 2 - k) 0 ⟨by decide,by omega⟩ ⟨rfl,rfl,rfl,rfl,rfl,rfl,rfl,trivial⟩ ?_
 rintro k s1 ⟨hk,hk2⟩
 repeat refine aa rfl ?_
 refine ab rfl ?_ ?_<;>intro h
 ·have hlt : 20 * (k + 1) ≤ 20 + B.length := by have := of_decide_eq_true h;omega
  clear h
  obtain rfl | rfl : k = 0 ∨ k = 1 := by omega
  ·rw [show w8 A B 0 = [] ++ A ++ B from rfl]
   ((repeat ((fail_if_success (with_reducible refine aM 3 ?_));refine cF rfl ?_));refine ay 4 ?_)
   repeat refine aa rfl ?_
   refine aI rfl (n8 (N := 20 + B.length) [] A B (by simp [hAl]) (by omega) rfl rfl (congrArg (fun n : Nat => I n) (show 20 * (0 + 1) = ([] : List BN).length + A.length by rw [hAl];rfl)) rfl hdA ⟨rfl,trivial⟩ fun s2 => ?_)
   refine aD ?_
   repeat refine aa rfl ?_
   exact ⟨1,⟨by decide,by omega⟩,by decide,rfl,rfl,rfl,rfl,rfl,rfl,rfl,trivial⟩
  ·have hB0 : B.length = 20 := by omega
   rw [show w8 A B 1 = aE aJ A ++ B ++ [] from (List.append_nil _).symm]
   ((repeat ((fail_if_success (with_reducible refine aM 3 ?_));refine cF rfl ?_));refine ay 4 ?_)
   repeat refine aa rfl ?_
   refine aI rfl (n8 (N := 20 + B.length) (aE aJ A) B [] (by simp [hA2]) (by omega) rfl (congrArg (fun n : Nat => I n) (show 20 * 1 = (aE aJ A).length by rw [hA2])) (congrArg (fun n : Nat => I n) (show 20 * (1 + 1) = (aE aJ A).length + B.length by rw [hA2,hB0])) rfl hdB ⟨rfl,trivial⟩ fun s2 => ?_)
   refine aD ?_
   repeat refine aa rfl ?_
   refine ⟨2,⟨by decide,fun _ => hB0⟩,by decide,rfl,rfl,rfl,rfl,rfl,rfl,?_,trivial⟩
   rw [show w8 A B 2 = aE aJ A ++ aE aJ B ++ [] from (List.append_nil _).symm]
   rfl
 have hge : ¬ 20 * (k + 1) ≤ 20 + B.length := by have := of_decide_eq_false h;omega
 clear h
 obtain ⟨Pk,Lk,e1,e2,e3,e4,hdk⟩ : ∃ Pk Lk : List BN,w8 A B k = Pk ++ Lk ++ [] ∧ 20 * k = Pk.length ∧ 20 + B.length = Pk.length + Lk.length ∧ Pk ++ aE aJ Lk ++ [] = aE aJ A ++ aE aJ B ∧ ∀ p ∈ Lk,p.at'.sz 7000000 := by
  obtain rfl | rfl : k = 1 ∨ k = 2 := by omega
  ·exact ⟨aE aJ A,B,(List.append_nil _).symm,by rw [hA2],by rw [hA2],List.append_nil _,hdB⟩
  ·have hB0 := hk2 rfl
   exact ⟨aE aJ A ++ aE aJ B,[],by rw [List.append_nil,List.append_nil];rfl,by rw [List.length_append,hA2,hB2,hB0],by rw [List.length_append,hA2,hB2,List.length_nil];omega,by rw [show aE aJ ([] : List BN) = [] from rfl,List.append_nil,List.append_nil],fun p hp => by cases hp⟩
 rw [e1]
 ((repeat ((fail_if_success (with_reducible refine aM 6 ?_));refine cF rfl ?_));refine ay 4 ?_)
 repeat refine aa rfl ?_
 refine aI rfl (n8 (N := 20 + B.length) Pk Lk [] (by rw [List.append_nil,List.length_append,e3]) (by omega) rfl (congrArg (fun n : Nat => I n) e2) (congrArg (fun n : Nat => I n) e3) rfl hdk ⟨rfl,trivial⟩ fun s2 => ?_)
 refine aD ?_
 rw [e4]
 repeat refine aa rfl ?_
 refine ao (fun o : Option (List BN) => ∀ W,o = some W → (∀ c,ci aJ c W = ci aJ c l) ∧ eg aJ W) (fun o => [(0,.als 5 g 0 (20 + B.length)),(1,I (20 + B.length : Nat)),(2,.clo 205 []),(6,I (if o.isSome then 40 else 20))])
  (fun o => [(5,g,⟨206,8,(o.getD (aE aJ A ++ aE aJ B)).map aZ,1⟩)]) (fun o => if o.isSome then 0 else 1) none (fun W h => by cases h) ⟨rfl,rfl,rfl,rfl,rfl,trivial⟩ ?_
 rintro o s3 hO
 cases o with
 |some W =>
  obtain ⟨hf,hsW⟩ := hO W rfl
  repeat refine aa rfl ?_
  refine ab rfl ?_ ?_<;>intro h
  ·have : (40 : Int) < ((20 + B.length : Nat) : Int) := of_decide_eq_true h
   omega
  clear h
  repeat refine aa rfl ?_
  exact b_ rfl (hK2 s3 W hsW hf)
 |none =>
  repeat refine aa rfl ?_
  refine ab rfl ?_ ?_<;>intro h
  ·have hB0 : 0 < B.length := by
    have : (20 : Int) < ((20 + B.length : Nat) : Int) := of_decide_eq_true h
    omega
   clear h
   have e0 : (none : Option (List BN)).getD (aE aJ A ++ aE aJ B) = [] ++ aE aJ A ++ aE aJ B ++ [] := (List.append_nil _).symm
   repeat refine aa rfl ?_
   refine ao (fun o : Option (List BN) => ∀ W,o = some W → B.length = 20 ∧ (∀ c,ci aJ c W = ci aJ c l) ∧ eg aJ W) (fun o => [(0,.als 5 g 0 (20 + B.length)),(1,I (20 + B.length : Nat)),(2,.clo 205 []),(6,I 20),(7,I (if o.isSome then 40 else 0)),(8,I (if o.isSome then 80 else 40))])
    (fun o => [(5,g,⟨206,8,(o.getD (aE aJ A ++ aE aJ B)).map aZ,1⟩)]) (fun o => if o.isSome then 0 else 1) none (fun W h => by cases h) ⟨rfl,rfl,rfl,rfl,rfl,rfl,rfl,trivial⟩ ?_
   rintro o s4 hO2
   cases o with
   |some W =>
    obtain ⟨hBe,hf,hsW⟩ := hO2 W rfl
    repeat refine aa rfl ?_
    refine ab rfl ?_ ?_<;>intro h
    ·have : (80 : Int) ≤ ((20 + B.length : Nat) : Int) := of_decide_eq_true h
     omega
    clear h
    repeat refine aa rfl ?_
    refine ab rfl ?_ ?_<;>intro h
    ·have : (60 : Int) < ((20 + B.length : Nat) : Int) := of_decide_eq_true h
     omega
    clear h
    repeat refine aa rfl ?_
    exact ⟨some W,(fun W' h => by cases h;exact ⟨hf,hsW⟩),by simp,rfl,rfl,rfl,rfl,rfl,trivial⟩
   |none =>
    repeat refine aa rfl ?_
    refine ab rfl ?_ ?_<;>intro h
    ·have hBe : B.length = 20 := by
      have : (40 : Int) ≤ ((20 + B.length : Nat) : Int) := of_decide_eq_true h
      omega
     clear h
     rw [e0]
     ((repeat ((fail_if_success (with_reducible refine aM 10 ?_));refine cF rfl ?_));refine ay 7 ?_)
     repeat refine aa rfl ?_
     refine aI rfl (xJ 40 (N := 20 + B.length) [] (aE aJ A) (aE aJ B) [] (by rw [hA2,hB2];omega) (by intro e;rw [e] at hA2;cases hA2) (by intro e;rw [e] at hB2;have : 0 = B.length := hB2;omega) hsA hsB hdS (by simp [hA2,hB2]) (by omega) rfl rfl (congrArg (fun n : Nat => I n) (show 20 = ([] : List BN).length + (aE aJ A).length by rw [hA2];rfl)) (congrArg (fun n : Nat => I n) (show 40 = ([] : List BN).length + (aE aJ A).length + (aE aJ B).length by rw [hA2,hB2,List.length_nil] <;> omega)) rfl ⟨rfl,trivial⟩ fun s5 W hpW hfW hsW => ?_)
     refine aD ?_
     repeat refine aa rfl ?_
     refine ⟨some W,(fun W' h => by cases h;exact ⟨hBe,fun c => (hfW c).trans (hf0 c),hsW⟩),by simp,rfl,rfl,rfl,rfl,rfl,rfl,?_,trivial⟩
     rw [show (some W).getD (aE aJ A ++ aE aJ B) = [] ++ W ++ [] from (List.append_nil _).symm]
     rfl
    ·have hBe : B.length < 20 := by
      have : ¬ (40 : Int) ≤ ((20 + B.length : Nat) : Int) := of_decide_eq_false h
      omega
     clear h
     repeat refine aa rfl ?_
     refine ab rfl ?_ ?_<;>intro h
     rotate_left
     ·have : ¬ (20 : Int) < ((20 + B.length : Nat) : Int) := of_decide_eq_false h
      omega
     clear h
     rw [e0]
     ((repeat ((fail_if_success (with_reducible refine aM 15 ?_));refine cF rfl ?_));refine ay 5 ?_)
     repeat refine aa rfl ?_
     refine aI rfl (xJ 40 (N := 20 + B.length) [] (aE aJ A) (aE aJ B) [] (by rw [hA2,hB2];omega) (by intro e;rw [e] at hA2;cases hA2) (by intro e;rw [e] at hB2;have : 0 = B.length := hB2;omega) hsA hsB hdS (by simp [hA2,hB2]) (by omega) rfl rfl (congrArg (fun n : Nat => I n) (show 20 = ([] : List BN).length + (aE aJ A).length by rw [hA2];rfl)) (congrArg (fun n : Nat => I n) (show 20 + B.length = ([] : List BN).length + (aE aJ A).length + (aE aJ B).length by rw [hA2,hB2,List.length_nil] <;> omega)) rfl ⟨rfl,trivial⟩ fun s5 W hpW hfW hsW => ?_)
     refine aD ?_
     repeat refine aa rfl ?_
     refine ⟨some W,(fun W' h => by cases h;exact ⟨fun c => (hfW c).trans (hf0 c),hsW⟩),by simp,rfl,rfl,rfl,rfl,?_,trivial⟩
     rw [show (some W).getD (aE aJ A ++ aE aJ B) = [] ++ W ++ [] from (List.append_nil _).symm]
     rfl
  ·have hB0 : B = [] := List.length_eq_zero_iff.1 (by
    have : ¬ (20 : Int) < ((20 + B.length : Nat) : Int) := of_decide_eq_false h
    omega)
   clear h
   repeat refine aa rfl ?_
   exact b_ rfl (hK2 s3 _ (by rw [hB0,show aE aJ ([] : List BN) = [] from rfl,List.append_nil];exact hsA) hf0)
set_option maxRecDepth 20000 in
theorem ux {K : St → Prop} {s : St} {d g : Nat} {x c : Operand} {tys : Array TypeId} {ty : TypeId} {pos : String} {af : Array Edge} (l : List BN) (hl : l.length ≤ 40)
  (hx : s.ev x = .als 5 g 0 (l.map aZ).length) (hc : s.ev c = .clo 205 [])
  (hd : ∀ p ∈ l,p.at'.sz 7000000)
  (ho : FitO s [(5,g,⟨206,8,l.map aZ,1⟩)])
  (hK : ∀ s1 : St,K (({ reg := s.reg,own := (s1.over [] [(5,g,⟨206,8,(aE aJ l).map aZ,1⟩)]).own } : St).putR d (.tup []))) :
  Sm Tryz.prog lay.get s ⟨some d,.call ⟨.value (.func 204),#[x,c],tys⟩,ty,pos,af,none⟩ K := by
 refine bB layOk rfl rfl Tryz.func204 rfl (by decide) rfl rfl ?_
 show PWP _ _ _ _ (aP s (([x,c] : List Operand).map s.ev ++ []))
 rw [show (([x,c] : List Operand).map s.ev ++ ([] : List PV)) = [.als 5 g 0 (l.map aZ).length,.clo 205 []] by simp [hx,hc]]
 rw [show aP s [.als 5 g 0 (l.map aZ).length,.clo 205 []] = aP (s.over [] [(5,g,⟨206,8,l.map aZ,1⟩)]) [.als 5 g 0 (l.map aZ).length,.clo 205 []] by rw [Fit.over (l := []) ho]]
 have hen : (l.map aZ).length = l.length := by rw [List.length_map]
 ((repeat ((fail_if_success (with_reducible refine aM 0 ?_));refine cF rfl ?_));refine ay 4 ?_)
 repeat refine aa rfl ?_
 refine aI rfl (qr l hl rfl (congrArg (fun n : Nat => I n) hen) rfl hd ⟨rfl,trivial⟩ fun s2 => ?_)
 refine aD ?_
 repeat refine aa rfl ?_
 exact b_ rfl (hK s2)
def iX (s : SR) (t : Rat) : Rat := s.c.val + t * (s.x : Rat)
def bn (s : SR) (t : Rat) (k : Nat) : BN := ⟨ofQ (s.k.s k - iX s t),ofQ (s.k.m k - aQ s.k.m k)⟩
def kn (t : Rat) (s : SR) : List BN := (List.range s.k.S.length).map (bn s t)
def km (l : List SR) (t : Rat) : List BN := l.flatMap (kn t)
theorem nR (t : Rat) (s : SR) : (kn t s).length = s.k.S.length := by simp [kn]
theorem rP {s : SR} (hs : s.Lim) {t : Rat} {m : Nat} (ht : HQ t m) : HQ (iX s t) (13 + (m + 4) + 1) := by
 have hx : Zb s.x := a8 hs.x.1 hs.x.2
 exact @HQ.add _ _ 13 (m + 4) hs.c.v.hq (@HQ.mul _ _ m 4 ht HQ.int)
theorem rR {s : SR} (hs : s.Lim) {t : Rat} {m : Nat} (ht : HQ t m) (k : Nat) : HQ (s.k.s k - iX s t) (4 + (13 + (m + 4) + 1) + 1) := by
 have hb := kf hs.k k
 have hzb : Zb (s.k.S.getD k 0) := a8 hb.1 hb.2
 exact @HQ.sub _ _ 4 _ HQ.int (rP hs ht)
theorem u7 {l : List SR} {t : Rat} {b : BN} (h : b ∈ km l t) : ∃ s ∈ l,∃ k,k < s.k.S.length ∧ b = bn s t k := by
 obtain ⟨s,hs,hb⟩ := List.mem_flatMap.1 h
 obtain ⟨k,hk,rfl⟩ := List.mem_map.1 hb
 exact ⟨s,hs,k,List.mem_range.1 hk,rfl⟩
def u6 (l : List SR) (t : Rat) : List BN := aE aJ (km l t)
theorem rc (f : Nat → BN) (k : Nat) : (List.range (k + 1)).map f = (List.range k).map f ++ [f k] := by rw [List.range_succ,List.map_append];rfl
set_option maxRecDepth 20000 in
theorem o4 (l : List SR) (hl : fW l) (hck : bQ l = 0) (h8 : ∀ s ∈ l,s.k.S.length ≤ 8) (h12 : l.length ≤ 12) (tr : RR) {t : Rat} {m : Nat} [ht : Vq tr t m] (hm : m ≤ 1000000) (h40 : (km l t).length ≤ 40) :
  Ret Tryz.prog .shared 193 [.sl (l.map eS),.agg (eR tr)] (.sl ((u6 l t).map aZ)) := by
 have hw0 := aV 0 ⟨by decide,by decide⟩
 have hml : (l.map eS).length = l.length := by simp
 have hlen : ∀ i,i ≤ l.length → ((l.take i).flatMap (kn t)).length ≤ 40 := fun i hi => by
  have : ((l.take i).flatMap (kn t)).length ≤ (km l t).length := by
   conv => rhs;rw [km,← List.take_append_drop i l,List.flatMap_append,List.length_append]
   omega
  omega
 refine Ret.of_pwp layOk mixed Go.Proofs.Tryz.func193 rfl (by decide) rfl rfl ?_
 repeat refine aa rfl ?_
 refine aB (Ghost.nilreg (k := 5) (t := 5) 206 8 1 rfl rfl) ?_
 refine ao (fun i : Nat => i ≤ l.length) (fun i => [(3,.ptr 3 1 0 0),(5,.als 5 (((l.take i).flatMap (kn t)).length + 1) 0 (((l.take i).flatMap (kn t)).map aZ).length),(12,.sl (l.map eS)),(13,I l.length),(14,I (i : Nat))])
  (fun i => [(3,1,⟨26,4,[eR tr],2⟩),(5,((l.take i).flatMap (kn t)).length + 1,⟨206,8,((l.take i).flatMap (kn t)).map aZ,1⟩)]) (fun i => l.length - i) 0 (Nat.zero_le _) ⟨rfl,rfl,rfl,by rw [← hml];rfl,rfl,rfl,rfl,trivial⟩ ?_
 intro i s hi
 repeat refine aa rfl ?_
 refine ab rfl ?_ ?_<;>intro h
 ·have hlt : i < l.length := by have := of_decide_eq_true h;omega
  clear h
  obtain ⟨x,hx⟩ := aH hlt
  have hxm := List.mem_of_getElem? hx
  have hxl := hl.1 x hxm
  have hkc := bR hck x hxm
  obtain ⟨h40,hSM,-,-⟩ := cH hkc
  have hk8 := h8 x hxm
  have hfl : (l.take (i + 1)).flatMap (kn t) = (l.take i).flatMap (kn t) ++ kn t x := by rw [cd hx,List.flatMap_append];simp
  have hA := hlen i hi
  have hA1 := hlen (i + 1) hlt
  rw [hfl,List.length_append,nR] at hA1
  generalize (l.take i).flatMap (kn t) = A at *
  have hw := jx i
  have hzx : Zb x.x := a8 hxl.x.1 hxl.x.2
  have e1 := aV x.x hxl.x
  have e2 := eQ tr (ofQ (x.x : Rat)) (by omega) (by decide)
  have v2 : Vq (ofQ (t * (x.x : Rat))) (t * (x.x : Rat)) (m + 1 + 4) := Vq.ofQ (h := @HQ.mul _ _ (m + 1) 4 ht.hq HQ.int)
  have e3 := dw x.c (ofQ (t * (x.x : Rat))) (hx := hxl.c.v) (hy := v2) (by decide) (by omega)
  rw [show x.c.val + t * (x.x : Rat) = iX x t from rfl] at e3
  have vb : Vq (ofQ (iX x t)) (iX x t) (13 + (m + 1 + 4) + 1) := Vq.ofQ (h := rP hxl ht.hq)
  have hMl : (x.k.M.map eR).length = x.k.S.length := by simp [hSM]
  repeat refine aa rfl ?_
  refine bO rfl rfl rfl rfl rfl rfl rfl hx rfl ?_
  (repeat ((fail_if_success (with_reducible refine aM 5 ?_));refine cF rfl ?_))
  refine aB (j5 8) ?_
  refine bj 8 1 [18,19,20,21,22,23,24,25,8] [] (by decide +kernel) rfl ?_
  repeat refine aa rfl ?_
  refine ap rfl rfl rfl e1 rfl rfl ?_
  repeat refine aa rfl ?_
  refine ap rfl rfl rfl e2 rfl rfl ?_
  repeat refine aa rfl ?_
  refine ap rfl rfl rfl e3 rfl rfl ?_
  repeat refine aa rfl ?_
  refine ap rfl rfl rfl hw0 rfl rfl ?_
  repeat refine aa rfl ?_
  refine gR [(3,.ptr 3 1 0 0),(5,.als 5 (A.length + 1) 0 (A.map aZ).length),(7,.ptr 7 ((s.own 7).1 + 1) 0 0),(8,.ptr 8 ((s.own 8).1 + 2 + 1) 0 0),(9,.ptr 9 ((s.own 9).1 + 1) 0 0),(12,.sl (l.map eS)),(13,I l.length),(14,I (i : Nat)),(29,.sl (x.k.M.map eR)),(30,I (x.k.M.map eR).length),(31,I ((0 : Nat) : Int))]
   [(3,1,⟨26,4,[eR tr],2⟩),(5,A.length + 1,⟨206,8,A.map aZ,1⟩),(7,(s.own 7).1 + 1,⟨122,7,[eS x],2⟩),(8,(s.own 8).1 + 2 + 1,⟨26,4,[eR (ofQ (iX x t))],2⟩),(9,(s.own 9).1 + 1,⟨26,4,[eR (yb x.k 0)],2⟩)]
   ⟨rfl,rfl,rfl,rfl,rfl,rfl,rfl,rfl,rfl,rfl,rfl,rfl,rfl,rfl,rfl,rfl,trivial⟩ ?_
  generalize (s.own 7).1 + 1 = g7
  generalize (s.own 8).1 + 2 + 1 = g8
  generalize (s.own 9).1 + 1 = g9
  rw [hMl]
  intro s1
  refine ao (fun k : Nat => k ≤ x.k.S.length) (fun k => [(3,.ptr 3 1 0 0),(5,.als 5 (A.length + k + 1) 0 ((A ++ (List.range k).map (bn x t)).map aZ).length),(7,.ptr 7 g7 0 0),(8,.ptr 8 g8 0 0),(9,.ptr 9 g9 0 0),(12,.sl (l.map eS)),(13,I l.length),(14,I (i : Nat)),(29,.sl (x.k.M.map eR)),(30,I x.k.S.length),(31,I (k : Nat))])
   (fun k => [(3,1,⟨26,4,[eR tr],2⟩),(5,A.length + k + 1,⟨206,8,(A ++ (List.range k).map (bn x t)).map aZ,1⟩),(7,g7,⟨122,7,[eS x],2⟩),(8,g8,⟨26,4,[eR (ofQ (iX x t))],2⟩),(9,g9,⟨26,4,[eR (yb x.k k)],2⟩)]) (fun k => x.k.S.length - k) 0 (Nat.zero_le _)
   ⟨rfl,by rw [List.range_zero,List.map_nil,List.append_nil];rfl,rfl,rfl,rfl,rfl,rfl,rfl,rfl,rfl,rfl,rfl,by rw [List.range_zero,List.map_nil,List.append_nil];rfl,rfl,rfl,rfl,trivial⟩ ?_
  intro k s2 hk
  repeat refine aa rfl ?_
  refine ab rfl ?_ ?_<;>intro h
  ·have hlk : k < x.k.S.length := by have := of_decide_eq_true h;omega
   clear h
   have hsx := bi (d := 0) hlk
   have hmx := bi (l := x.k.M) (i := k) (d := RR.zero) (by omega)
   have hxb := kf hxl.k k
   have hzb : Zb (x.k.S.getD k 0) := a8 hxb.1 hxb.2
   have f1 := aV (x.k.S.getD k 0) hxb
   rw [show ((x.k.S.getD k 0 : Int) : Rat) = x.k.s k from rfl] at f1
   have vs : Vq (ofQ (x.k.s k)) (x.k.s k) 4 := Vq.ofQ (h := HQ.int)
   have f2 := jX (ofQ (x.k.s k)) (ofQ (iX x t)) (hx := vs) (hy := vb) (by decide) (by omega)
   have f3 := jX (x.k.M.getD k RR.zero) (yb x.k k) (hx := pE x.k hxl.k k) (hy := mE x.k hxl.k k) (by decide) (by decide)
   have hwk : IntKind.i64.wrap (((k : Nat) : Int) + 1) = ((k + 1 : Nat) : Int) := by rw [wrap_i64 (by omega) (by omega)];omega
   have hrow : (A ++ (List.range (k + 1)).map (bn x t)).map aZ = (A ++ (List.range k).map (bn x t)).map aZ ++ [eR (ofQ (x.k.s k - iX x t)) ++ eR (ofQ (x.k.m k - aQ x.k.m k))] := by rw [rc,← List.append_assoc,List.map_append];rfl
   have hal : (A ++ (List.range k).map (bn x t)).length ≤ 40 := by simp;omega
   generalize A ++ (List.range k).map (bn x t) = Ak at *
   generalize ofQ (x.k.s k - iX x t) = N1 at *
   generalize ofQ (x.k.m k - aQ x.k.m k) = N2 at *
   generalize ofQ (x.k.s k) = N3 at *
   repeat refine aa rfl ?_
   refine bO rfl rfl rfl rfl rfl rfl rfl hmx rfl ?_
   repeat refine aa rfl ?_
   refine bM [50,5] [14,15,16] (by decide +kernel) ?_
   repeat refine aa rfl ?_
   refine bO rfl rfl rfl rfl rfl rfl rfl hsx rfl ?_
   repeat refine aa rfl ?_
   refine ap rfl rfl rfl f1 rfl rfl ?_
   repeat refine aa rfl ?_
   refine ap rfl rfl rfl f2 rfl rfl ?_
   repeat refine aa rfl ?_
   refine ap rfl rfl rfl f3 rfl rfl ?_
   repeat refine aa rfl ?_
   refine Aa rfl rfl rfl (br 1 rfl rfl rfl rfl rfl rfl rfl rfl rfl rfl rfl (by repeat' constructor) rfl ⟨q9 rfl,?_⟩)
   repeat refine aa rfl ?_
   refine Aa rfl rfl rfl (bP 1 rfl rfl rfl rfl rfl rfl rfl rfl rfl rfl rfl (by repeat' constructor) (by intro row hr;first | (simp at hr;subst hr;rfl) | (simp at hr;obtain ⟨_,_,rfl⟩ := hr;rfl) | simp at hr) rfl rfl (by simp;omega) (by simp;omega) ⟨q9 rfl,?_⟩)
   repeat refine aa rfl ?_
   refine ⟨k + 1,hlk,by omega,rfl,?_,rfl,rfl,rfl,rfl,rfl,rfl,rfl,rfl,congrArg I hwk,rfl,?_,rfl,rfl,rfl,trivial⟩
   ·rw [hrow];rfl
   ·rw [hrow];rfl
  ·have hke : k = x.k.S.length := by have := of_decide_eq_false h;omega
   clear h
   subst hke
   rw [show (List.range x.k.S.length).map (bn x t) = kn t x from rfl]
   have hgl : A.length + x.k.S.length = ((l.take (i + 1)).flatMap (kn t)).length := by rw [hfl,List.length_append,nR]
   rw [← hfl,hgl]
   repeat refine aa rfl ?_
   exact ⟨i + 1,hlt,by omega,rfl,rfl,rfl,rfl,congrArg I hw,rfl,rfl,trivial⟩
 ·have hie : i = l.length := by have := of_decide_eq_false h;omega
  clear h
  subst hie
  rw [List.take_length]
  rw [show l.flatMap (kn t) = km l t from rfl]
  have hsz : ∀ p ∈ km l t,p.at'.sz 7000000 := fun p hp => by
   obtain ⟨s,hs,k,hk,rfl⟩ := u7 hp
   have := eO (rR (hl.1 s hs) ht.hq k).ok
   exact ⟨by have := this.1;show (ofQ (s.k.s k - iX s t)).n.l.length ≤ 7000000;omega,by have := this.2;show (ofQ (s.k.s k - iX s t)).d.l.length ≤ 7000000;omega⟩
  ((repeat ((fail_if_success (with_reducible refine aM 14 ?_));refine cF rfl ?_));refine ay 1 ?_)
  refine aa rfl ?_
  refine aS ?_
  refine aI rfl (ux (km l t) h40 rfl rfl hsz ⟨rfl,trivial⟩ fun s1 => ?_)
  rw [show aE aJ (km l t) = u6 l t from rfl]
  have hol : (u6 l t).length = (km l t).length := dR _ _
  have hol2 : ((km l t).map aZ).length = ((u6 l t).map aZ).length := by simp [hol]
  rw [hol2]
  refine aD ?_
  repeat refine aa rfl ?_
  exact fc rfl rfl rfl (by repeat' constructor) rfl
def prB (n : BN) : Rat × Rat := (n.at'.val,n.up.val)
def ee (b : BR) (t : Rat) : Rat := uL (b.w : Rat) ((u6 b.l t).map prB) 0 0 0
theorem yc {l : List SR} {t : Rat} {n : BN} (h : n ∈ u6 l t) : ∃ s ∈ l,∃ k,k < s.k.S.length ∧ n = bn s t k := u7 ((cT aJ _).mem_iff.1 h)
theorem pM {q : Rat} : ofQ (ofQ q).val = ofQ q := by rw [ofQ_val]
set_option maxRecDepth 20000 in
theorem qc (b : BR) (hb : b.Ok) {t : Rat} {m : Nat} (h40 : (km b.l t).length ≤ 40) (tr : RR) [ht : Vq tr t m] (hm : m ≤ 60000) : Ret Tryz.prog .shared 165 [.agg (eB b),.agg (eR tr)] (.agg (eA ⟨ofQ (ee b t),ofQ t⟩)) := by
 have hw0 := aV 0 ⟨by decide,by decide⟩
 rw [show (((0 : Int) : Rat)) = 0 from rfl] at hw0
 have hww := aV b.w hb.lim.w
 have zw : Zb b.w := a8 hb.lim.w.1 hb.lim.w.2
 have vw : Vq (ofQ (b.w : Rat)) (b.w : Rat) 4 := Vq.ofQ (h := HQ.int)
 have hbe := o4 b.l hb.lim.l hb.chkL hb.few.2 (by have := hb.few.1;omega) tr (m := m) (by omega) h40
 have hlow := yB tr (by omega)
 have hol : (u6 b.l t).length = (km b.l t).length := dR _ _
 have hol40 : (u6 b.l t).length ≤ 40 := by omega
 have hat : ∀ n ∈ u6 b.l t,n.at' = ofQ n.at'.val ∧ n.up = ofQ n.up.val ∧ HQ n.at'.val (m + 30) ∧ HQ n.up.val 27 := fun n hn => by
  obtain ⟨s,hs,k,hk,rfl⟩ := yc hn
  refine ⟨pM.symm,pM.symm,?_,?_⟩
  ·show HQ (ofQ (s.k.s k - iX s t)).val (m + 30)
   rw [ofQ_val]
   exact (rR (hb.lim.l.1 s hs) ht.hq k).mono (by omega)
  ·show HQ (ofQ (s.k.m k - aQ s.k.m k)).val 27
   rw [ofQ_val]
   exact lJ (hb.lim.l.1 s hs).k k
 generalize hZ : ee b t = Z
 rw [ee] at hZ
 generalize u6 b.l t = B at *
 have hml : (B.map aZ).length = B.length := by simp
 obtain ⟨w,ba,l⟩ := b
 simp only at *
 generalize (w : Rat) = W at *
 refine Ret.of_pwp layOk mixed Go.Proofs.Tryz.func165 rfl (by decide) rfl rfl ?_
 repeat refine aa rfl ?_
 refine ap rfl rfl rfl hw0 rfl rfl ?_
 repeat refine aa rfl ?_
 refine ap rfl rfl rfl hw0 rfl rfl ?_
 repeat refine aa rfl ?_
 refine ap rfl rfl rfl hww rfl rfl ?_
 repeat refine aa rfl ?_
 refine ap rfl rfl rfl hw0 rfl rfl ?_
 repeat refine aa rfl ?_
 refine ap rfl rfl rfl hbe rfl rfl ?_
 repeat refine aa rfl ?_
 refine ao (fun q : Nat × Rat × Rat × Rat => q.1 ≤ B.length ∧ uL W ((B.drop q.1).map prB) q.2.1 q.2.2.1 q.2.2.2 = Z ∧ HQ q.2.1 (q.1 * (2 * m + 1300) + 4) ∧ HQ q.2.2.1 (q.1 * 28 + 4) ∧ HQ q.2.2.2 (m + 30)) (fun q => [(3,.ptr 3 1 0 0),(4,.ptr 4 1 0 0),(5,.ptr 5 1 0 0),(6,.ptr 6 1 0 0),(7,.ptr 7 1 0 0),(8,.ptr 8 1 0 0),(21,.sl (B.map aZ)),(22,I B.length),(23,I (q.1 : Nat))])
  (fun q => [(3,1,⟨26,4,[eR tr],2⟩),(4,1,⟨40,8,[zN ++ zN],2⟩),(5,1,⟨26,4,[eR (ofQ q.2.1)],2⟩),(6,1,⟨26,4,[eR (ofQ q.2.2.1)],2⟩),(7,1,⟨26,4,[eR (ofQ W)],2⟩),(8,1,⟨26,4,[eR (ofQ q.2.2.2)],2⟩)]) (fun q => B.length - q.1) (0,0,0,0)
  ⟨Nat.zero_le _,by rw [List.drop_zero];exact hZ,HQ.zero.mono (by omega),HQ.zero.mono (by omega),HQ.zero.mono (by omega)⟩ ⟨rfl,rfl,rfl,rfl,rfl,rfl,rfl,by rw [← hml];rfl,rfl,rfl,rfl,rfl,rfl,rfl,rfl,trivial⟩ ?_
 rintro ⟨i,c,k,a⟩ s ⟨hi,hS,hc,hk,ha⟩
 simp only at hi hS hc hk ha
 dsimp only
 have hcb : i * (2 * m + 1300) + 4 ≤ 40 * (2 * m + 1300) + 4 := by have := Nat.mul_le_mul (show i ≤ 40 by omega) (Nat.le_refl (2 * m + 1300));omega
 have vk : Vq (ofQ k) k (i * 28 + 4) := Vq.ofQ (h := hk)
 have vc : Vq (ofQ c) c (i * (2 * m + 1300) + 4) := Vq.ofQ (h := hc)
 have va : Vq (ofQ a) a (m + 30) := Vq.ofQ (h := ha)
 have sgk := l6 (ofQ k) (hx := vk) (by omega)
 have hsk := gx k
 have t1 := jX (ofQ W) (ofQ c) (hx := vw) (hy := vc) (by decide) (by omega)
 have u1 : Vq (ofQ (W - c)) (W - c) (4 + (i * (2 * m + 1300) + 4) + 1) := Vq.ofQ (h := @HQ.sub _ _ 4 _ (cV vw) hc)
 generalize hgk : sgn k = gk at *
 repeat refine aa rfl ?_
 refine ab rfl ?_ ?_<;>intro h
 ·have hlt : i < B.length := by have := of_decide_eq_true h;omega
  clear h
  obtain ⟨x,hx⟩ := aH hlt
  obtain ⟨x1,x2,x3,x4⟩ := hat x (List.mem_of_getElem? hx)
  have hdr : (B.drop i).map prB = prB x :: (B.drop (i + 1)).map prB := by
   obtain ⟨hl1,h2⟩ := List.getElem?_eq_some_iff.1 hx
   rw [List.drop_eq_getElem_cons hl1,h2];rfl
  rw [hdr,uL] at hS
  have hw := jx i
  obtain ⟨xa,xu⟩ := x
  obtain ⟨p,rfl⟩ : ∃ p,xa = ofQ p := ⟨_,x1⟩
  obtain ⟨u,rfl⟩ : ∃ u,xu = ofQ u := ⟨_,x2⟩
  clear x1 x2
  simp only [prB,ofQ_val] at hS x3 x4
  have vp : Vq (ofQ p) p (m + 30) := Vq.ofQ (h := x3)
  have vu : Vq (ofQ u) u 27 := Vq.ofQ (h := x4)
  have e1 := jX (ofQ p) (ofQ a) (hx := vp) (hy := va) (by omega) (by omega)
  have w1 : Vq (ofQ (p - a)) (p - a) (m + 30 + (m + 30) + 1) := Vq.ofQ (h := @HQ.sub _ _ _ _ x3 ha)
  have e2 := eQ (ofQ k) (ofQ (p - a)) (hx := vk) (hy := w1) (by omega) (by omega)
  have w2 : Vq (ofQ (k * (p - a))) (k * (p - a)) (i * 28 + 4 + (m + 30 + (m + 30) + 1)) := Vq.ofQ (h := @HQ.mul _ _ _ _ hk (cV w1))
  have e3 := dw (ofQ c) (ofQ (k * (p - a))) (hx := vc) (hy := w2) (by omega) (by omega)
  have h3 : HQ (c + k * (p - a)) ((i + 1) * (2 * m + 1300) + 4) := (@HQ.add _ _ _ _ hc (cV w2)).mono (by rw [Nat.add_mul];omega)
  have w3 : Vq (ofQ (c + k * (p - a))) (c + k * (p - a)) ((i + 1) * (2 * m + 1300) + 4) := Vq.ofQ (h := h3)
  have hcb1 : (i + 1) * (2 * m + 1300) + 4 ≤ 41 * (2 * m + 1300) + 4 := by have := Nat.mul_le_mul (show i + 1 ≤ 41 by omega) (Nat.le_refl (2 * m + 1300));omega
  have e4 := nV (ofQ (c + k * (p - a))) (ofQ W) (hx := w3) (hy := vw) (by omega) (by decide)
  have hs4 := AK (c + k * (p - a) - W)
  have e5 := dw (ofQ k) (ofQ u) (hx := vk) (hy := vu) (by omega) (by decide)
  have h5 : HQ (k + u) ((i + 1) * 28 + 4) := (@HQ.add _ _ _ _ hk x4).mono (by omega)
  have h6 : HQ c ((i + 1) * (2 * m + 1300) + 4) := hc.mono (by rw [Nat.add_mul];omega)
  by_cases hkp : 0 < k
  ·have hkg : 0 < gk := by rw [← hgk];exact (gx k).2 hkp
   rw [if_pos hkp] at hS
   by_cases hr : W ≤ c + k * (p - a)
   ·rw [if_pos hr] at hS
    have hr4 : 0 ≤ sgn (c + k * (p - a) - W) := hs4.2 (by grind)
    have t2 := pQ (ofQ (W - c)) (ofQ k) (hx := u1) (hy := vk) (by omega) (by omega) (by grind)
    have u2 : Vq (ofQ ((W - c) / k)) ((W - c) / k) (4 + (i * (2 * m + 1300) + 4) + 1 + (i * 28 + 4)) := Vq.ofQ (h := @HQ.div _ _ _ _ (cV u1) hk)
    have t3 := dw (ofQ a) (ofQ ((W - c) / k)) (hx := va) (hy := u2) (by omega) (by omega)
    rw [hS] at t3
    generalize sgn (c + k * (p - a) - W) = g4 at *
    generalize ofQ (c + k * (p - a)) = Y1 at *
    repeat refine aa rfl ?_
    refine bO rfl rfl rfl rfl rfl rfl rfl hx rfl ?_
    repeat refine aa rfl ?_
    refine aY rfl rfl rfl sgk rfl rfl rfl ?_
    repeat refine aa rfl ?_
    refine ab rfl ?_ ?_<;>intro h
    ·clear h
     (repeat ((fail_if_success (with_reducible refine aM 8 ?_));refine cF rfl ?_))
     refine aB (j5 11) ?_
     refine bj 8 1 [30,31,32,33,34,35,36,37,11] [] (by decide +kernel) rfl ?_
     repeat refine aa rfl ?_
     refine ap rfl rfl rfl e1 rfl rfl ?_
     repeat refine aa rfl ?_
     refine ap rfl rfl rfl e2 rfl rfl ?_
     repeat refine aa rfl ?_
     refine ap rfl rfl rfl e3 rfl rfl ?_
     repeat refine aa rfl ?_
     refine aY rfl rfl rfl e4 rfl rfl rfl ?_
     repeat refine aa rfl ?_
     refine ab rfl ?_ ?_<;>intro h
     ·clear h
      repeat refine aa rfl ?_
      refine aY rfl rfl rfl sgk rfl rfl rfl ?_
      repeat refine aa rfl ?_
      refine ab rfl ?_ ?_<;>intro h
      ·clear h
       repeat refine aa rfl ?_
       refine ah 7 [53,54,55,56,57,58,59] (by decide +kernel) ?_
       repeat refine aa rfl ?_
       refine ap rfl rfl rfl t1 rfl rfl ?_
       repeat refine aa rfl ?_
       refine ap rfl rfl rfl t2 rfl rfl ?_
       repeat refine aa rfl ?_
       refine ap rfl rfl rfl t3 rfl rfl ?_
       repeat refine aa rfl ?_
       refine ah 4 [60,61,62,63] (by decide +kernel) ?_
       repeat refine aa rfl ?_
       refine ap rfl rfl rfl hlow rfl rfl ?_
       repeat refine aa rfl ?_
       exact aK rfl rfl rfl
      ·exact absurd hkg (of_decide_eq_false h)
     ·exact absurd hr4 (of_decide_eq_false h)
    ·exact absurd hkg (of_decide_eq_false h)
   ·rw [if_neg hr] at hS
    have hr4 : ¬ 0 ≤ sgn (c + k * (p - a) - W) := fun h => by have := hs4.1 h;grind
    generalize sgn (c + k * (p - a) - W) = g4 at *
    generalize hY1 : ofQ (c + k * (p - a)) = Y1 at *
    generalize hY2 : ofQ (k + u) = Y2 at *
    repeat refine aa rfl ?_
    refine bO rfl rfl rfl rfl rfl rfl rfl hx rfl ?_
    repeat refine aa rfl ?_
    refine aY rfl rfl rfl sgk rfl rfl rfl ?_
    repeat refine aa rfl ?_
    refine ab rfl ?_ ?_<;>intro h
    ·clear h
     (repeat ((fail_if_success (with_reducible refine aM 8 ?_));refine cF rfl ?_))
     refine aB (j5 11) ?_
     refine bj 8 1 [30,31,32,33,34,35,36,37,11] [] (by decide +kernel) rfl ?_
     repeat refine aa rfl ?_
     refine ap rfl rfl rfl e1 rfl rfl ?_
     repeat refine aa rfl ?_
     refine ap rfl rfl rfl e2 rfl rfl ?_
     repeat refine aa rfl ?_
     refine ap rfl rfl rfl e3 rfl rfl ?_
     repeat refine aa rfl ?_
     refine aY rfl rfl rfl e4 rfl rfl rfl ?_
     repeat refine aa rfl ?_
     refine ab rfl ?_ ?_<;>intro h
     ·exact absurd (of_decide_eq_true h) hr4
     ·clear h
      repeat refine aa rfl ?_
      refine ap rfl rfl rfl e5 rfl rfl ?_
      repeat refine aa rfl ?_
      refine ⟨(i + 1,c + k * (p - a),k + u,p),⟨hlt,hS,h3,h5,x3⟩,by simp only;omega,rfl,rfl,rfl,rfl,rfl,rfl,rfl,rfl,congrArg I hw,rfl,rfl,by rw [← hY1];rfl,by rw [← hY2];rfl,rfl,rfl,trivial⟩
    ·exact absurd hkg (of_decide_eq_false h)
  ·have hkg : ¬ 0 < gk := fun h => hkp (by rw [← hgk] at h;exact (gx k).1 h)
   rw [if_neg hkp] at hS
   generalize hY2 : ofQ (k + u) = Y2 at *
   repeat refine aa rfl ?_
   refine bO rfl rfl rfl rfl rfl rfl rfl hx rfl ?_
   repeat refine aa rfl ?_
   refine aY rfl rfl rfl sgk rfl rfl rfl ?_
   repeat refine aa rfl ?_
   refine ab rfl ?_ ?_<;>intro h
   ·exact absurd (of_decide_eq_true h) hkg
   ·clear h
    repeat refine aa rfl ?_
    refine ap rfl rfl rfl e5 rfl rfl ?_
    repeat refine aa rfl ?_
    refine ⟨(i + 1,c,k + u,p),⟨hlt,hS,h6,h5,x3⟩,by simp only;omega,rfl,rfl,rfl,rfl,rfl,rfl,rfl,rfl,congrArg I hw,rfl,rfl,rfl,by rw [← hY2];rfl,rfl,rfl,trivial⟩
 ·have hie : i = B.length := by have := of_decide_eq_false h;omega
  clear h
  rw [hie,List.drop_length,List.map_nil,uL] at hS
  by_cases hkp : 0 < k
  ·have hkg : 0 < gk := by rw [← hgk];exact (gx k).2 hkp
   rw [if_pos hkp] at hS
   have t2 := pQ (ofQ (W - c)) (ofQ k) (hx := u1) (hy := vk) (by omega) (by omega) (by grind)
   have u2 : Vq (ofQ ((W - c) / k)) ((W - c) / k) (4 + (i * (2 * m + 1300) + 4) + 1 + (i * 28 + 4)) := Vq.ofQ (h := @HQ.div _ _ _ _ (cV u1) hk)
   have t3 := dw (ofQ a) (ofQ ((W - c) / k)) (hx := va) (hy := u2) (by omega) (by omega)
   rw [hS] at t3
   repeat refine aa rfl ?_
   refine aY rfl rfl rfl sgk rfl rfl rfl ?_
   repeat refine aa rfl ?_
   refine ab rfl ?_ ?_<;>intro h
   ·clear h
    repeat refine aa rfl ?_
    refine ah 7 [53,54,55,56,57,58,59] (by decide +kernel) ?_
    repeat refine aa rfl ?_
    refine ap rfl rfl rfl t1 rfl rfl ?_
    repeat refine aa rfl ?_
    refine ap rfl rfl rfl t2 rfl rfl ?_
    repeat refine aa rfl ?_
    refine ap rfl rfl rfl t3 rfl rfl ?_
    repeat refine aa rfl ?_
    refine ah 4 [60,61,62,63] (by decide +kernel) ?_
    repeat refine aa rfl ?_
    refine ap rfl rfl rfl hlow rfl rfl ?_
    repeat refine aa rfl ?_
    exact aK rfl rfl rfl
   ·exact absurd hkg (of_decide_eq_false h)
  ·have hkg : ¬ 0 < gk := fun h => hkp (by rw [← hgk] at h;exact (gx k).1 h)
   rw [if_neg hkp] at hS
   repeat refine aa rfl ?_
   refine aY rfl rfl rfl sgk rfl rfl rfl ?_
   repeat refine aa rfl ?_
   refine ab rfl ?_ ?_<;>intro h
   ·exact absurd (of_decide_eq_true h) hkg
   ·clear h
    repeat refine aa rfl ?_
    refine ah 4 [60,61,62,63] (by decide +kernel) ?_
    repeat refine aa rfl ?_
    refine ap rfl rfl rfl hlow rfl rfl ?_
    repeat refine aa rfl ?_
    exact qP rfl (by repeat' constructor) rfl (by repeat' constructor) (by rw [← hS];rfl)
theorem ej {b : BR} (hb : b.Ok) : (bd b).Ok := by
 refine ⟨fun i hi => tj (bR hb.chkL _ (aF hi)),?_⟩
 have := (k9 hb.chk).1
 show (0 : Rat) < (b.w : Rat)
 have h : (0 : Int) < b.w := by omega
 exact_mod_cast h
theorem AD {c : CR} (hc : c.Lim) {p : Nat} (hp : p ≤ 8) : HQ (gi c.s c.m p) 300 := by
 rw [gi]
 refine (bh (m := 31) p fun k _ => ?_).mono (by omega)
 have hb := kf hc k
 have hzb : Zb (c.S.getD k 0) := a8 hb.1 hb.2
 exact @HQ.mul _ _ 27 4 (lJ hc k) HQ.int
theorem v_ {b : BR} (hb : b.Ok) (p : Nat → Nat) {i : Nat} (hi : i < b.l.length) : HQ ((bd b).k p i) 13 := (mE _ (hb.lim.l.1 _ (aF hi)).k (p i)).hq
theorem zp {b : BR} (hb : b.Ok) {i : Nat} (hi : i < b.l.length) : HQ ((bd b).X i) 4 := by
 have hx := (hb.lim.l.1 _ (aF hi)).x
 have hx : Zb (b.l.getD i dS).x := a8 hx.1 hx.2
 exact HQ.int
theorem uR {b : BR} (hb : b.Ok) (p : Nat → Nat) : HQ ((bd b).Kh p) 300 := (bh (m := 13) b.l.length fun i hi => v_ hb p hi).mono (by have := hb.few.1;omega)
theorem uP {b : BR} (hb : b.Ok) (p : Nat → Nat) : HQ ((bd b).Kc p) 300 := (bh (m := 17) b.l.length fun i hi => @HQ.mul _ _ 13 4 (v_ hb p hi) (zp hb hi)).mono (by have := hb.few.1;omega)
theorem zF {b : BR} (hb : b.Ok) (p : Nat → Nat) : HQ ((bd b).Kp p) 300 := (bh (m := 21) b.l.length fun i hi => @HQ.mul _ _ 17 4 (@HQ.mul _ _ 13 4 (v_ hb p hi) (zp hb hi)) (zp hb hi)).mono (by have := hb.few.1;omega)
theorem zT {b : BR} (hb : b.Ok) {p : Nat → Nat} (hp : ∀ i,i < b.l.length → p i ≤ (bd b).n i) {i : Nat} (hi : i < b.l.length) : HQ ((bd b).k p i * (bd b).C i - (bd b).o p i) 327 := by
 have h8 := hb.few.2 _ (aF hi)
 have hpi := hp i hi
 have hc : HQ ((bd b).C i) 13 := (hb.lim.l.1 _ (aF hi)).c.v.hq
 exact @HQ.sub _ _ 26 300 (@HQ.mul _ _ 13 13 (v_ hb p hi) hc) (AD (hb.lim.l.1 _ (aF hi)).k (Nat.le_trans hpi h8))
theorem zE {b : BR} (hb : b.Ok) {p : Nat → Nat} (hp : ∀ i,i < b.l.length → p i ≤ (bd b).n i) : HQ ((bd b).Fo p) 4100 := (bh (m := 327) b.l.length fun i hi => zT hb hp hi).mono (by have := hb.few.1;omega)
theorem A5 {b : BR} (hb : b.Ok) {p : Nat → Nat} (hp : ∀ i,i < b.l.length → p i ≤ (bd b).n i) : HQ ((bd b).Go p) 4100 := (bh (m := 331) b.l.length fun i hi => @HQ.mul _ _ 327 4 (zT hb hp hi) (zp hb hi)).mono (by have := hb.few.1;omega)
theorem rW {z X D : Rat} (hd : D ≠ 0) : z + (X - z * D) / D = X / D := by grind
theorem yh {h c p z t F G w M : Rat} (hd : h * p - c * c ≠ 0) : z + (p * (w - (h * z + c * t + F)) - c * (M - (c * z + p * t + G))) / (h * p - c * c) = (p * (w - F) - c * (M - G)) / (h * p - c * c) := by
 rw [show p * (w - (h * z + c * t + F)) - c * (M - (c * z + p * t + G)) = (p * (w - F) - c * (M - G)) - z * (h * p - c * c) by grind,rW hd]
theorem yi {h c p z t F G w M : Rat} (hd : h * p - c * c ≠ 0) : t + (h * (M - (c * z + p * t + G)) - c * (w - (h * z + c * t + F))) / (h * p - c * c) = (h * (M - G) - c * (w - F)) / (h * p - c * c) := by
 rw [show h * (M - (c * z + p * t + G)) - c * (w - (h * z + c * t + F)) = (h * (M - G) - c * (w - F)) - t * (h * p - c * c) by grind,rW hd]
theorem sd {b : BR} (hb : b.Ok) {p : Nat → Nat} {z t : Rat} (hp : (bd b).Inc p z t) {d : Rat × Rat} (h : Bd.newt ((bd b).Kh p) ((bd b).Kc p) ((bd b).Kp p) ((bd b).w - (bd b).F z t) (-((bd b).e z t)) = some d) : HQ (z + d.1) 20000 ∧ HQ (t + d.2) 20000 := by
 have hpn : ∀ i,i < b.l.length → p i ≤ (bd b).n i := fun i hi => (hp i hi).1
 have hw : Zb b.w := a8 hb.lim.w.1 hb.lim.w.2
 have e1 := Bd.F_at (ej hb) hp
 have e2 := Bd.G_at (ej hb) hp
 rw [Bd.newt] at h
 split at h
 ·cases h
 ·rename_i hd
  cases h
  have hf : -((bd b).e z t) = (bd b).w * (bd b).A - (bd b).G z t := by rw [Bd.e];grind
  simp only
  rw [hf,e1,e2,yh hd,yi hd]
  have kh := uR hb p
  have kc := uP hb p
  have kp := zF hb p
  have fo := zE hb hpn
  have go := A5 hb hpn
  have wq : HQ ((bd b).w) 4 := HQ.int
  have wa : HQ ((bd b).w * (bd b).A) 17 := sS hb
  have f1 := @HQ.sub _ _ 4 4100 wq fo
  have g1 := @HQ.sub _ _ 17 4100 wa go
  have dt := @HQ.sub _ _ _ _ (@HQ.mul _ _ 300 300 kh kp) (@HQ.mul _ _ 300 300 kc kc)
  exact ⟨(@HQ.div _ _ _ _ (@HQ.sub _ _ _ _ (@HQ.mul _ _ _ _ kp f1) (@HQ.mul _ _ _ _ kc g1)) dt).mono (by omega),(@HQ.div _ _ _ _ (@HQ.sub _ _ _ _ (@HQ.mul _ _ _ _ kh g1) (@HQ.mul _ _ _ _ kc f1)) dt).mono (by omega)⟩
def zP (o : Option (Rat × Rat)) : PV := match o with
 |none => .tup [.agg (zN ++ zN),.bool false]
 |some x => .tup [.agg (eA ⟨ofQ x.1,ofQ x.2⟩),.bool true]
theorem sQ {x : RR} {p : Rat} {n m : Nat} (h : Vq x p n) (hm : n ≤ m) : Vq x p m := ⟨h.val,Nat.le_trans h.sz.1 hm,Nat.le_trans h.sz.2 hm⟩
theorem zR {b : BR} (hb : b.Ok) (z t : Rat) : (bd b).Inc ((bd b).pR z t) z t := fun i hi => (ra (n := (bd b).n i) (S := (bd b).S i) (y := (bd b).y z t i)).c
theorem zQ {b : BR} (hb : b.Ok) (z t : Rat) : (bd b).Inc ((bd b).pL z t) z t := fun i hi => (lN (n := (bd b).n i) (S := (bd b).S i) (y := (bd b).y z t i)).c
def BJ (b : BR) (p : Nat → Nat) : PV := .agg (eK (ofQ ((bd b).Kh p)) (ofQ ((bd b).Kc p)) (ofQ ((bd b).Kp p)))
theorem rG (b : BR) (hb : b.Ok) (a : AR) {z t : Rat} {n m : Nat} [ha : Va a z t n m] (hn : n + m ≤ 60000) : Ret Tryz.prog .shared 126 [.sl (b.l.map eS),.clo 173 [.dref (eA a) 0]] (BJ b ((bd b).pR z t)) :=
 nA b.l hb.lim.l hb.few 173 (eA a) (fun s => ofQ (aQ s.k.m (j_ s.k.s (yQ s z t) s.k.S.length))) ((bd b).k ((bd b).pR z t)) (fun s hs => lW s (hb.lim.l.1 s hs) (bR hb.chkL s hs) a (by omega))
  (fun i hi => sQ (Vq.ofQ (h := v_ hb ((bd b).pR z t) hi)) (by decide))
theorem rF (b : BR) (hb : b.Ok) (a : AR) {z t : Rat} {n m : Nat} [ha : Va a z t n m] (hn : n + m ≤ 60000) : Ret Tryz.prog .shared 126 [.sl (b.l.map eS),.clo 206 [.dref (eA a) 0]] (BJ b ((bd b).pL z t)) :=
 nA b.l hb.lim.l hb.few 206 (eA a) (fun s => tL s.k (yQ s z t) s.k.S.length) ((bd b).k ((bd b).pL z t)) (fun s hs => mT s (hb.lim.l.1 s hs) (bR hb.chkL s hs) a (by omega))
  (fun i hi => sQ (wd (hb.lim.l.1 _ (aF hi)).k _ _) (by decide))
structure TryC (b : BR) (a : AR) (z t : Rat) (fo mo : RR) (p : Nat → Nat) (d : Option (Rat × Rat)) : Prop where
 mv : Ret Tryz.prog .shared 125 [BJ b p,.agg (eR fo),.agg (eR mo)] (lI d)
 af : ∀ x,d = some x → Ret Tryz.prog .shared 128 [.agg (eA a),.agg (eA ⟨ofQ x.1,ofQ x.2⟩)] (.agg (eA ⟨ofQ (z + x.1),ofQ (t + x.2)⟩))
 ba : ∀ x,d = some x → Ret Tryz.prog .shared 115 [.agg (eB b),.agg (eA ⟨ofQ (z + x.1),ofQ (t + x.2)⟩)] (.bool (decide ((bd b).Bal (z + x.1) (t + x.2))))
theorem BD (b : BR) (hb : b.Ok) (a : AR) {z t : Rat} {n m : Nat} (ha : Va a z t n m) (hn : n + m ≤ 50000) {p : Nat → Nat} (hp : (bd b).Inc p z t) :
  TryC b a z t (ofQ ((bd b).w - (bd b).F z t)) (ofQ (-((bd b).e z t))) p (Bd.newt ((bd b).Kh p) ((bd b).Kc p) ((bd b).Kp p) ((bd b).w - (bd b).F z t) (-((bd b).e z t))) := by
 have hw : Zb b.w := a8 hb.lim.w.1 hb.lim.w.2
 have wq : HQ ((bd b).w) 4 := HQ.int
 have hF : HQ ((bd b).w - (bd b).F z t) (96 * (n + m + 62) + 400) := (@HQ.sub _ _ 4 (96 * ((n + 1) + (m + 1) + 60) + 200) wq (Ab hb.lim.l hb.few ha.z.hq ha.t.hq)).mono (by omega)
 have hE : HQ (-((bd b).e z t)) (96 * (n + m + 62) + 400) := (@HQ.neg _ _ (Au hb ha.z.hq ha.t.hq)).mono (by omega)
 have hd : ∀ x,Bd.newt ((bd b).Kh p) ((bd b).Kc p) ((bd b).Kp p) ((bd b).w - (bd b).F z t) (-((bd b).e z t)) = some x → HQ (z + x.1) 20000 ∧ HQ (t + x.2) 20000 := fun x hx => sd hb hp hx
 refine ⟨tP _ _ _ _ _ (a := 300) (b := 96 * (n + m + 62) + 400) (Vq.ofQ (h := uR hb p)) (Vq.ofQ (h := uP hb p)) (Vq.ofQ (h := zF hb p)) (Vq.ofQ (h := hF)) (Vq.ofQ (h := hE)) (by decide) (by omega),fun x hx => ?_,fun x hx => ?_⟩
 ·obtain ⟨h1,h2⟩ := hd x hx
  have q1 : HQ x.1 (20000 + (n + 1) + 1) := by
   have := @HQ.sub _ _ 20000 (n + 1) h1 ha.z.hq
   rwa [show z + x.1 - z = x.1 by grind] at this
  have q2 : HQ x.2 (20000 + (m + 1) + 1) := by
   have := @HQ.sub _ _ 20000 (m + 1) h2 ha.t.hq
   rwa [show t + x.2 - t = x.2 by grind] at this
  exact s7 a ⟨ofQ x.1,ofQ x.2⟩ (hd := ⟨Vq.ofQ (h := q1),Vq.ofQ (h := q2)⟩) (by omega) (by omega) (by omega) (by omega)
 ·obtain ⟨h1,h2⟩ := hd x hx
  exact nP b hb ⟨ofQ (z + x.1),ofQ (t + x.2)⟩ (ha := ⟨Vq.ofQ (h := h1),Vq.ofQ (h := h2)⟩) (by decide)
def uD (b : BR) (z t : Rat) : Option (Rat × Rat) → Option (Rat × Rat)
 |none => none
 |some d => if (bd b).Bal (z + d.1) (t + d.2) then some (z + d.1,t + d.2) else none
def AV (b : BR) (z t : Rat) (p : Nat → Nat) : Option (Rat × Rat) := Bd.newt ((bd b).Kh p) ((bd b).Kc p) ((bd b).Kp p) ((bd b).w - (bd b).F z t) (-((bd b).e z t))
theorem sN (b : BR) (z t : Rat) (p : Nat → Nat) : (bd b).tryP z t p = uD b z t (AV b z t p) := by
 rw [Bd.tryP,AV]
 cases Bd.newt ((bd b).Kh p) ((bd b).Kc p) ((bd b).Kp p) ((bd b).w - (bd b).F z t) (-((bd b).e z t)) <;> rfl
set_option maxRecDepth 20000 in
theorem tB (b : BR) (hb : b.Ok) (a : AR) {z t : Rat} {n m : Nat} [ha : Va a z t n m] (hn : n + m ≤ 50000) : Ret Tryz.prog .shared 167 [.agg (eB b),.agg (eA a)] (zP ((bd b).guess z t)) := by
 have h1 := iU b.l hb.lim.l hb.chkL hb.few a (by omega)
 have h2 := aV b.w hb.lim.w
 have zw : Zb b.w := a8 hb.lim.w.1 hb.lim.w.2
 have v1 : Vq (ofQ (ac (fI b.l z t) b.l.length)) (ac (fI b.l z t) b.l.length) (96 * (n + 1 + (m + 1) + 60) + 200) := Vq.ofQ (h := Ab hb.lim.l hb.few ha.z.hq ha.t.hq)
 have h3 := jX (ofQ (b.w : Rat)) (ofQ (ac (fI b.l z t) b.l.length)) (hy := v1) (by decide) (by omega)
 rw [show (b.w : Rat) - ac (fI b.l z t) b.l.length = (bd b).w - (bd b).F z t from rfl] at h3
 have h4 := lk b hb a (by omega)
 have v4 : Vq (ofQ ((bd b).e z t)) ((bd b).e z t) (96 * (n + 1 + (m + 1) + 60) + 200 + 17 + 1) := Vq.ofQ (h := Au hb ha.z.hq ha.t.hq)
 have h5 := Br (ofQ ((bd b).e z t)) (hx := v4) (by omega)
 have h6 := nl a
 have h7 := pB a
 have sR := rG b hb a (z := z) (t := t) (by omega)
 have sL := rF b hb a (z := z) (t := t) (by omega)
 have cR := BD b hb a ha hn (zR hb z t)
 have cL := BD b hb a ha hn (zQ hb z t)
 rw [show Bd.newt ((bd b).Kh ((bd b).pR z t)) ((bd b).Kc ((bd b).pR z t)) ((bd b).Kp ((bd b).pR z t)) ((bd b).w - (bd b).F z t) (-((bd b).e z t)) = AV b z t ((bd b).pR z t) from rfl] at cR
 rw [show Bd.newt ((bd b).Kh ((bd b).pL z t)) ((bd b).Kc ((bd b).pL z t)) ((bd b).Kp ((bd b).pL z t)) ((bd b).w - (bd b).F z t) (-((bd b).e z t)) = AV b z t ((bd b).pL z t) from rfl] at cL
 generalize hG : (bd b).guess z t = G
 rw [Bd.guess,sN,sN] at hG
 generalize hPR : (bd b).pR z t = pR at *
 generalize hPL : (bd b).pL z t = pL at *
 obtain ⟨m1,m2,m3⟩ := cR
 obtain ⟨l1,l2,l3⟩ := cL
 generalize AV b z t pR = oR at *
 generalize AV b z t pL = oL at *
 rw [BJ] at sR sL m1 l1
 generalize ofQ ((bd b).Kh pR) = R1 at *
 generalize ofQ ((bd b).Kc pR) = R2 at *
 generalize ofQ ((bd b).Kp pR) = R3 at *
 generalize ofQ ((bd b).Kh pL) = L1 at *
 generalize ofQ ((bd b).Kc pL) = L2 at *
 generalize ofQ ((bd b).Kp pL) = L3 at *
 generalize ofQ ((bd b).w - (bd b).F z t) = FO at *
 generalize ofQ (-((bd b).e z t)) = MO at *
 generalize ofQ ((bd b).e z t) = EX at *
 generalize ofQ (ac (fI b.l z t) b.l.length) = TF at *
 generalize ofQ (ac (gI b.l z t) b.l.length) = TG at *
 refine Ret.of_pwp layOk mixed Go.Proofs.Tryz.func167 rfl (by decide) rfl rfl ?_
 repeat refine aa rfl ?_
 refine ap rfl rfl rfl h1 rfl rfl ?_
 repeat refine aa rfl ?_
 refine bj 6 1 [21,22,23,24,25,26,8] [] (by decide +kernel) rfl ?_
 repeat refine aa rfl ?_
 refine ap rfl rfl rfl h2 rfl rfl ?_
 repeat refine aa rfl ?_
 refine ap rfl rfl rfl h3 rfl rfl ?_
 repeat refine aa rfl ?_
 refine ap rfl rfl rfl h4 rfl rfl ?_
 repeat refine aa rfl ?_
 refine ap rfl rfl rfl h5 rfl rfl ?_
 repeat refine aa rfl ?_
 refine bM [35] [4,5] (by decide +kernel) ?_
 repeat refine aa rfl ?_
 refine ap rfl rfl rfl h6 rfl rfl ?_
 repeat refine aa rfl ?_
 refine ap rfl rfl rfl h7 rfl rfl ?_
 repeat refine aa rfl ?_
 refine Aa rfl rfl rfl (br 2 rfl rfl rfl rfl rfl rfl rfl rfl rfl rfl rfl (by repeat' constructor) rfl ⟨q9 rfl,?_⟩)
 repeat refine aa rfl ?_
 refine ao (fun i : Nat => (i = 0 ∧ (match uD b z t oR with | some x => some x | none => uD b z t oL) = G) ∨ (i = 1 ∧ uD b z t oL = G) ∨ (i = 2 ∧ G = none)) (fun i => [(2,.ptr 2 1 0 0),(3,.ptr 3 1 0 0),(4,.ptr 4 1 0 0),(8,.ptr 8 1 0 0),(9,.ptr 9 1 0 0),(35,.als 35 1 0 2),(36,I 2),(37,I (i : Nat))])
  (fun _ => [(2,1,⟨29,6,[eB b],2⟩),(3,1,⟨40,8,[eA a],2⟩),(4,1,⟨40,8,[zN ++ zN],2⟩),(8,1,⟨26,4,[eR FO],2⟩),(9,1,⟨26,4,[eR MO],2⟩),(35,1,⟨132,1,[[.clo 173 [.dref (eA a) 0]],[.clo 206 [.dref (eA a) 0]]],2⟩)]) (fun i => 2 - i) 0 (.inl ⟨rfl,hG⟩) ⟨rfl,rfl,rfl,rfl,rfl,rfl,rfl,rfl,rfl,rfl,rfl,rfl,rfl,rfl,trivial⟩ ?_
 intro i s hi
 rcases hi with ⟨rfl,hG⟩ | ⟨rfl,hG⟩ | ⟨rfl,hG⟩
 ·cases oR with
  |none =>
   repeat refine aa rfl ?_
   refine bp rfl rfl (bg rfl rfl rfl rfl rfl rfl rfl (by decide) (by decide)) ?_
   repeat refine aa rfl ?_
   refine bM [12] [10,11] (by decide +kernel) ?_
   repeat refine aa rfl ?_
   refine ap rfl rfl rfl sR rfl rfl ?_
   repeat refine aa rfl ?_
   refine ap rfl rfl rfl m1 rfl rfl ?_
   repeat refine aa rfl ?_
   refine ah 8 [51,52,53,54,55,56,57,58] (by decide +kernel) ?_
   repeat refine aa rfl ?_
   exact ⟨1,.inr (.inl ⟨rfl,hG⟩),by decide,rfl,rfl,rfl,rfl,rfl,rfl,rfl,rfl,rfl,rfl,rfl,rfl,rfl,rfl,trivial⟩
  |some d =>
   have k1 := m2 d rfl
   have k2 := m3 d rfl
   rw [lI] at m1
   rw [uD] at hG
   by_cases hbal : (bd b).Bal (z + d.1) (t + d.2)
   ·rw [decide_eq_true hbal] at k2
    rw [if_pos hbal] at hG
    try simp only at hG
    subst hG
    rw [zP]
    dsimp only
    generalize ofQ (z + d.1) = Y1 at *
    generalize ofQ (t + d.2) = Y2 at *
    generalize ofQ d.1 = Y3 at *
    generalize ofQ d.2 = Y4 at *
    repeat refine aa rfl ?_
    refine bp rfl rfl (bg rfl rfl rfl rfl rfl rfl rfl (by decide) (by decide)) ?_
    repeat refine aa rfl ?_
    refine bM [12] [10,11] (by decide +kernel) ?_
    repeat refine aa rfl ?_
    refine ap rfl rfl rfl sR rfl rfl ?_
    repeat refine aa rfl ?_
    refine ap rfl rfl rfl m1 rfl rfl ?_
    repeat refine aa rfl ?_
    refine ah 8 [51,52,53,54,55,56,57,58] (by decide +kernel) ?_
    repeat refine aa rfl ?_
    refine ap rfl rfl rfl k1 rfl rfl ?_
    repeat refine aa rfl ?_
    refine aY rfl rfl rfl k2 rfl rfl rfl ?_
    repeat refine aa rfl ?_
    refine ap rfl rfl rfl k1 rfl rfl ?_
    repeat refine aa rfl ?_
    exact aK rfl rfl rfl
   ·rw [decide_eq_false hbal] at k2
    rw [if_neg hbal] at hG
    try simp only at hG
    generalize ofQ (z + d.1) = Y1 at *
    generalize ofQ (t + d.2) = Y2 at *
    generalize ofQ d.1 = Y3 at *
    generalize ofQ d.2 = Y4 at *
    repeat refine aa rfl ?_
    refine bp rfl rfl (bg rfl rfl rfl rfl rfl rfl rfl (by decide) (by decide)) ?_
    repeat refine aa rfl ?_
    refine bM [12] [10,11] (by decide +kernel) ?_
    repeat refine aa rfl ?_
    refine ap rfl rfl rfl sR rfl rfl ?_
    repeat refine aa rfl ?_
    refine ap rfl rfl rfl m1 rfl rfl ?_
    repeat refine aa rfl ?_
    refine ah 8 [51,52,53,54,55,56,57,58] (by decide +kernel) ?_
    repeat refine aa rfl ?_
    refine ap rfl rfl rfl k1 rfl rfl ?_
    repeat refine aa rfl ?_
    refine aY rfl rfl rfl k2 rfl rfl rfl ?_
    repeat refine aa rfl ?_
    exact ⟨1,.inr (.inl ⟨rfl,hG⟩),by decide,rfl,rfl,rfl,rfl,rfl,rfl,rfl,rfl,rfl,rfl,rfl,rfl,rfl,rfl,trivial⟩
 ·cases oL with
  |none =>
   repeat refine aa rfl ?_
   refine bp rfl rfl (bg rfl rfl rfl rfl rfl rfl rfl (by decide) (by decide)) ?_
   repeat refine aa rfl ?_
   refine bM [12] [10,11] (by decide +kernel) ?_
   repeat refine aa rfl ?_
   refine ap rfl rfl rfl sL rfl rfl ?_
   repeat refine aa rfl ?_
   refine ap rfl rfl rfl l1 rfl rfl ?_
   repeat refine aa rfl ?_
   refine ah 8 [51,52,53,54,55,56,57,58] (by decide +kernel) ?_
   repeat refine aa rfl ?_
   exact ⟨2,.inr (.inr ⟨rfl,hG.symm⟩),by decide,rfl,rfl,rfl,rfl,rfl,rfl,rfl,rfl,rfl,rfl,rfl,rfl,rfl,rfl,trivial⟩
  |some d =>
   have k1 := l2 d rfl
   have k2 := l3 d rfl
   rw [lI] at l1
   rw [uD] at hG
   by_cases hbal : (bd b).Bal (z + d.1) (t + d.2)
   ·rw [decide_eq_true hbal] at k2
    rw [if_pos hbal] at hG
    try simp only at hG
    subst hG
    rw [zP]
    dsimp only
    generalize ofQ (z + d.1) = Y1 at *
    generalize ofQ (t + d.2) = Y2 at *
    generalize ofQ d.1 = Y3 at *
    generalize ofQ d.2 = Y4 at *
    repeat refine aa rfl ?_
    refine bp rfl rfl (bg rfl rfl rfl rfl rfl rfl rfl (by decide) (by decide)) ?_
    repeat refine aa rfl ?_
    refine bM [12] [10,11] (by decide +kernel) ?_
    repeat refine aa rfl ?_
    refine ap rfl rfl rfl sL rfl rfl ?_
    repeat refine aa rfl ?_
    refine ap rfl rfl rfl l1 rfl rfl ?_
    repeat refine aa rfl ?_
    refine ah 8 [51,52,53,54,55,56,57,58] (by decide +kernel) ?_
    repeat refine aa rfl ?_
    refine ap rfl rfl rfl k1 rfl rfl ?_
    repeat refine aa rfl ?_
    refine aY rfl rfl rfl k2 rfl rfl rfl ?_
    repeat refine aa rfl ?_
    refine ap rfl rfl rfl k1 rfl rfl ?_
    repeat refine aa rfl ?_
    exact aK rfl rfl rfl
   ·rw [decide_eq_false hbal] at k2
    rw [if_neg hbal] at hG
    try simp only at hG
    generalize ofQ (z + d.1) = Y1 at *
    generalize ofQ (t + d.2) = Y2 at *
    generalize ofQ d.1 = Y3 at *
    generalize ofQ d.2 = Y4 at *
    repeat refine aa rfl ?_
    refine bp rfl rfl (bg rfl rfl rfl rfl rfl rfl rfl (by decide) (by decide)) ?_
    repeat refine aa rfl ?_
    refine bM [12] [10,11] (by decide +kernel) ?_
    repeat refine aa rfl ?_
    refine ap rfl rfl rfl sL rfl rfl ?_
    repeat refine aa rfl ?_
    refine ap rfl rfl rfl l1 rfl rfl ?_
    repeat refine aa rfl ?_
    refine ah 8 [51,52,53,54,55,56,57,58] (by decide +kernel) ?_
    repeat refine aa rfl ?_
    refine ap rfl rfl rfl k1 rfl rfl ?_
    repeat refine aa rfl ?_
    refine aY rfl rfl rfl k2 rfl rfl rfl ?_
    repeat refine aa rfl ?_
    exact ⟨2,.inr (.inr ⟨rfl,hG.symm⟩),by decide,rfl,rfl,rfl,rfl,rfl,rfl,rfl,rfl,rfl,rfl,rfl,rfl,rfl,rfl,trivial⟩
 ·subst hG
  repeat refine aa rfl ?_
  exact aK rfl rfl rfl
def rV (s : SR) (z t : Rat) : Rat := aQ s.k.m (j_ s.k.s (yQ s z t) s.k.S.length)
def lV (s : SR) (z t : Rat) : Rat := aQ s.k.m (oO s.k.s (yQ s z t) s.k.S.length)
def qD (z t A B : Rat) (s : SR) : Bool := decide (¬ ((0 < A + B * (s.x : Rat) ∧ rV s z t ≠ 0) ∨ (A + B * (s.x : Rat) < 0 ∧ lV s z t ≠ 0)))
def fT (l : List SR) (z t A B : Rat) : Bool := l.all (qD z t A B)
theorem sG {p : Rat} (h : 0 < p) : sgn p = 1 := by rw [sgn,if_neg (by grind),if_neg (by grind)]
theorem sF {p : Rat} (h : p < 0) : sgn p = -1 := by rw [sgn,if_pos h]
theorem l0 {p : Rat} (h : p = 0) : sgn p = 0 := (jS p).2 h
theorem xg {p : Rat} (h : p ≠ 0) : sgn p = 1 ∨ sgn p = -1 := by
 rcases Classical.em (0 < p) with h1 | h1
 ·exact .inl (sG h1)
 ·exact .inr (sF (by grind))
set_option maxRecDepth 20000 in
theorem vO (b : BR) (hb : b.Ok) (a : AR) {z t : Rat} {n m : Nat} [ha : Va a z t n m] (hn : n + m ≤ 50000) (r : AR) {A B : Rat} {n' m' : Nat} (hr : Va r A B n' m') (h2 : n' ≤ 100000) (h3 : m' ≤ 100000) : Ret Tryz.prog .shared 170 [.agg (eB b),.agg (eA a),.agg (eA r)] (.bool (fT b.l z t A B)) := by
 have h6 := nl a
 have h7 := pB a
 have hck := hb.chkL
 have hl := hb.lim.l
 have h12 := hb.few.1
 have hrz := hr.z
 have hrt := hr.t
 generalize hF : fT b.l z t A B = F
 rw [fT] at hF
 obtain ⟨w,ba,l⟩ := b
 simp only at *
 have hml : (l.map eS).length = l.length := by simp
 obtain ⟨rz,rt⟩ := r
 simp only at hrz hrt
 refine Ret.of_pwp layOk mixed Go.Proofs.Tryz.func170 rfl (by decide) rfl rfl ?_
 repeat refine aa rfl ?_
 refine ao (fun i : Nat => i ≤ l.length ∧ (l.drop i).all (qD z t A B) = l.all (qD z t A B)) (fun i => [(4,.ptr 4 1 0 0),(5,.ptr 5 1 0 0),(11,.sl (l.map eS)),(12,I l.length),(13,I (i : Nat))])
  (fun i => [(4,1,⟨40,8,[eA a],2⟩),(5,1,⟨62,8,[eA ⟨rz,rt⟩],2⟩)]) (fun i => l.length - i) 0 ⟨Nat.zero_le _,by rw [List.drop_zero]⟩ ⟨rfl,rfl,rfl,by rw [← hml];rfl,rfl,rfl,rfl,trivial⟩ ?_
 intro i s ⟨hi,hall⟩
 repeat refine aa rfl ?_
 refine ab rfl ?_ ?_<;>intro h
 ·have hlt : i < l.length := by have := of_decide_eq_true h;omega
  clear h
  obtain ⟨x,hx⟩ := aH hlt
  have hxm := List.mem_of_getElem? hx
  have hxl := hl.1 x hxm
  have hkc := bR hck x hxm
  have zx : Zb x.x := a8 hxl.x.1 hxl.x.2
  have hw := jx i
  have hdr : (l.drop i).all (qD z t A B) = (qD z t A B x && (l.drop (i + 1)).all (qD z t A B)) := by
   obtain ⟨hl1,h2⟩ := List.getElem?_eq_some_iff.1 hx
   rw [List.drop_eq_getElem_cons hl1,h2,List.all_cons]
  rw [hdr] at hall
  have hbd : qD z t A B x = qD z t A B x := rfl
  conv at hbd => rhs;rw [qD]
  have e1 := aV x.x hxl.x
  have e2 := eQ rt (ofQ (x.x : Rat)) (hx := hrt) (by omega) (by decide)
  have v2 : Vq (ofQ (B * (x.x : Rat))) (B * (x.x : Rat)) (m' + 1 + 4) := Vq.ofQ (h := @HQ.mul _ _ (m' + 1) 4 hrt.hq HQ.int)
  have e3 := dw rz (ofQ (B * (x.x : Rat))) (hx := hrz) (hy := v2) (by omega) (by omega)
  have v3 : Vq (ofQ (A + B * (x.x : Rat))) (A + B * (x.x : Rat)) (n' + 1 + (m' + 1 + 4) + 1) := Vq.ofQ (h := @HQ.add _ _ (n' + 1) _ hrz.hq (cV v2))
  have e4 := l6 (ofQ (A + B * (x.x : Rat))) (hx := v3) (by omega)
  have cr := lW x hxl hkc a (z := z) (t := t) (by omega)
  have cl := mT x hxl hkc a (z := z) (t := t) (by omega)
  rw [show aQ x.k.m (j_ x.k.s (yQ x z t) x.k.S.length) = rV x z t from rfl] at cr
  have vr : Vq (ofQ (rV x z t)) (rV x z t) 13 := Vq.ofQ (h := (mE x.k hxl.k _).hq)
  have vl : Vq (tL x.k (yQ x z t) x.k.S.length) (lV x z t) 12 := wd hxl.k _ _
  have sr := l6 (ofQ (rV x z t)) (hx := vr) (by decide)
  have sl := l6 (tL x.k (yQ x z t) x.k.S.length) (hx := vl) (by decide)
  generalize ofQ (rV x z t) = RV at *
  generalize tL x.k (yQ x z t) x.k.S.length = LV at *
  generalize qD z t A B x = ok at *
  generalize ofQ (A + B * (x.x : Rat)) = D1 at *
  generalize ofQ (B * (x.x : Rat)) = D2 at *
  generalize ofQ (x.x : Rat) = D3 at *
  rcases Classical.em (0 < A + B * (x.x : Rat)) with hd | hd
  ·rw [sG hd] at e4
   rcases Classical.em (rV x z t = 0) with hz | hz
   ·rw [l0 hz] at sr
    have hbad : ok = true := by rw [hbd,decide_eq_true];rintro (⟨_,h⟩ | ⟨h,_⟩);exact h hz;grind
    rw [hbad,Bool.true_and] at hall
    repeat refine aa rfl ?_
    refine bO rfl rfl rfl rfl rfl rfl rfl hx rfl ?_
    repeat refine aa rfl ?_
    refine ah 11 [17,18,19,20,21,22,23,24,25,26,9] (by decide +kernel) ?_
    repeat refine aa rfl ?_
    refine ap rfl rfl rfl e1 rfl rfl ?_
    repeat refine aa rfl ?_
    refine ap rfl rfl rfl e2 rfl rfl ?_
    repeat refine aa rfl ?_
    refine ap rfl rfl rfl e3 rfl rfl ?_
    repeat refine aa rfl ?_
    refine aY rfl rfl rfl e4 rfl rfl rfl ?_
    repeat refine aa rfl ?_
    refine ah 22 [27,28,29,30,31,32,33,34,35,36,37,38,39,40,41,42,43,44,45,46,47,48] (by decide +kernel) ?_
    repeat refine aa rfl ?_
    refine ap rfl rfl rfl h6 rfl rfl ?_
    repeat refine aa rfl ?_
    refine ap rfl rfl rfl cr rfl rfl ?_
    repeat refine aa rfl ?_
    refine aY rfl rfl rfl sr rfl rfl rfl ?_
    repeat refine aa rfl ?_
    exact ⟨i + 1,⟨by omega,hall⟩,by omega,rfl,rfl,rfl,rfl,congrArg I hw,rfl,rfl,trivial⟩
   ·have hbad : ok = false := by rw [hbd,decide_eq_false];exact fun h => h (.inl ⟨hd,hz⟩)
    rw [hbad,Bool.false_and] at hall
    rcases xg hz with hs | hs
    ·rw [hs] at sr
     repeat refine aa rfl ?_
     refine bO rfl rfl rfl rfl rfl rfl rfl hx rfl ?_
     repeat refine aa rfl ?_
     refine ah 11 [17,18,19,20,21,22,23,24,25,26,9] (by decide +kernel) ?_
     repeat refine aa rfl ?_
     refine ap rfl rfl rfl e1 rfl rfl ?_
     repeat refine aa rfl ?_
     refine ap rfl rfl rfl e2 rfl rfl ?_
     repeat refine aa rfl ?_
     refine ap rfl rfl rfl e3 rfl rfl ?_
     repeat refine aa rfl ?_
     refine aY rfl rfl rfl e4 rfl rfl rfl ?_
     repeat refine aa rfl ?_
     refine ah 22 [27,28,29,30,31,32,33,34,35,36,37,38,39,40,41,42,43,44,45,46,47,48] (by decide +kernel) ?_
     repeat refine aa rfl ?_
     refine ap rfl rfl rfl h6 rfl rfl ?_
     repeat refine aa rfl ?_
     refine ap rfl rfl rfl cr rfl rfl ?_
     repeat refine aa rfl ?_
     refine aY rfl rfl rfl sr rfl rfl rfl ?_
     repeat refine aa rfl ?_
     exact bm rfl rfl (by rw [← hF,← hall])
    ·rw [hs] at sr
     repeat refine aa rfl ?_
     refine bO rfl rfl rfl rfl rfl rfl rfl hx rfl ?_
     repeat refine aa rfl ?_
     refine ah 11 [17,18,19,20,21,22,23,24,25,26,9] (by decide +kernel) ?_
     repeat refine aa rfl ?_
     refine ap rfl rfl rfl e1 rfl rfl ?_
     repeat refine aa rfl ?_
     refine ap rfl rfl rfl e2 rfl rfl ?_
     repeat refine aa rfl ?_
     refine ap rfl rfl rfl e3 rfl rfl ?_
     repeat refine aa rfl ?_
     refine aY rfl rfl rfl e4 rfl rfl rfl ?_
     repeat refine aa rfl ?_
     refine ah 22 [27,28,29,30,31,32,33,34,35,36,37,38,39,40,41,42,43,44,45,46,47,48] (by decide +kernel) ?_
     repeat refine aa rfl ?_
     refine ap rfl rfl rfl h6 rfl rfl ?_
     repeat refine aa rfl ?_
     refine ap rfl rfl rfl cr rfl rfl ?_
     repeat refine aa rfl ?_
     refine aY rfl rfl rfl sr rfl rfl rfl ?_
     repeat refine aa rfl ?_
     exact bm rfl rfl (by rw [← hF,← hall])
  ·rcases Classical.em (A + B * (x.x : Rat) < 0) with hd2 | hd2
   ·rw [sF hd2] at e4
    rcases Classical.em (lV x z t = 0) with hz | hz
    ·rw [l0 hz] at sl
     have hbad : ok = true := by rw [hbd,decide_eq_true];rintro (⟨h,_⟩ | ⟨_,h⟩);exact hd h;exact h hz
     rw [hbad,Bool.true_and] at hall
     repeat refine aa rfl ?_
     refine bO rfl rfl rfl rfl rfl rfl rfl hx rfl ?_
     repeat refine aa rfl ?_
     refine ah 11 [17,18,19,20,21,22,23,24,25,26,9] (by decide +kernel) ?_
     repeat refine aa rfl ?_
     refine ap rfl rfl rfl e1 rfl rfl ?_
     repeat refine aa rfl ?_
     refine ap rfl rfl rfl e2 rfl rfl ?_
     repeat refine aa rfl ?_
     refine ap rfl rfl rfl e3 rfl rfl ?_
     repeat refine aa rfl ?_
     refine aY rfl rfl rfl e4 rfl rfl rfl ?_
     repeat refine aa rfl ?_
     refine ah 22 [27,28,29,30,31,32,33,34,35,36,37,38,39,40,41,42,43,44,45,46,47,48] (by decide +kernel) ?_
     repeat refine aa rfl ?_
     refine ap rfl rfl rfl h7 rfl rfl ?_
     repeat refine aa rfl ?_
     refine ap rfl rfl rfl cl rfl rfl ?_
     repeat refine aa rfl ?_
     refine aY rfl rfl rfl sl rfl rfl rfl ?_
     repeat refine aa rfl ?_
     exact ⟨i + 1,⟨by omega,hall⟩,by omega,rfl,rfl,rfl,rfl,congrArg I hw,rfl,rfl,trivial⟩
    ·have hbad : ok = false := by rw [hbd,decide_eq_false];exact fun h => h (.inr ⟨hd2,hz⟩)
     rw [hbad,Bool.false_and] at hall
     rcases xg hz with hs | hs
     ·rw [hs] at sl
      repeat refine aa rfl ?_
      refine bO rfl rfl rfl rfl rfl rfl rfl hx rfl ?_
      repeat refine aa rfl ?_
      refine ah 11 [17,18,19,20,21,22,23,24,25,26,9] (by decide +kernel) ?_
      repeat refine aa rfl ?_
      refine ap rfl rfl rfl e1 rfl rfl ?_
      repeat refine aa rfl ?_
      refine ap rfl rfl rfl e2 rfl rfl ?_
      repeat refine aa rfl ?_
      refine ap rfl rfl rfl e3 rfl rfl ?_
      repeat refine aa rfl ?_
      refine aY rfl rfl rfl e4 rfl rfl rfl ?_
      repeat refine aa rfl ?_
      refine ah 22 [27,28,29,30,31,32,33,34,35,36,37,38,39,40,41,42,43,44,45,46,47,48] (by decide +kernel) ?_
      repeat refine aa rfl ?_
      refine ap rfl rfl rfl h7 rfl rfl ?_
      repeat refine aa rfl ?_
      refine ap rfl rfl rfl cl rfl rfl ?_
      repeat refine aa rfl ?_
      refine aY rfl rfl rfl sl rfl rfl rfl ?_
      repeat refine aa rfl ?_
      exact bm rfl rfl (by rw [← hF,← hall])
     ·rw [hs] at sl
      repeat refine aa rfl ?_
      refine bO rfl rfl rfl rfl rfl rfl rfl hx rfl ?_
      repeat refine aa rfl ?_
      refine ah 11 [17,18,19,20,21,22,23,24,25,26,9] (by decide +kernel) ?_
      repeat refine aa rfl ?_
      refine ap rfl rfl rfl e1 rfl rfl ?_
      repeat refine aa rfl ?_
      refine ap rfl rfl rfl e2 rfl rfl ?_
      repeat refine aa rfl ?_
      refine ap rfl rfl rfl e3 rfl rfl ?_
      repeat refine aa rfl ?_
      refine aY rfl rfl rfl e4 rfl rfl rfl ?_
      repeat refine aa rfl ?_
      refine ah 22 [27,28,29,30,31,32,33,34,35,36,37,38,39,40,41,42,43,44,45,46,47,48] (by decide +kernel) ?_
      repeat refine aa rfl ?_
      refine ap rfl rfl rfl h7 rfl rfl ?_
      repeat refine aa rfl ?_
      refine ap rfl rfl rfl cl rfl rfl ?_
      repeat refine aa rfl ?_
      refine aY rfl rfl rfl sl rfl rfl rfl ?_
      repeat refine aa rfl ?_
      exact bm rfl rfl (by rw [← hF,← hall])
   ·rw [l0 (show A + B * (x.x : Rat) = 0 by grind)] at e4
    have hbad : ok = true := by rw [hbd,decide_eq_true];rintro (⟨h,_⟩ | ⟨h,_⟩);exact hd h;exact hd2 h
    rw [hbad,Bool.true_and] at hall
    repeat refine aa rfl ?_
    refine bO rfl rfl rfl rfl rfl rfl rfl hx rfl ?_
    repeat refine aa rfl ?_
    refine ah 11 [17,18,19,20,21,22,23,24,25,26,9] (by decide +kernel) ?_
    repeat refine aa rfl ?_
    refine ap rfl rfl rfl e1 rfl rfl ?_
    repeat refine aa rfl ?_
    refine ap rfl rfl rfl e2 rfl rfl ?_
    repeat refine aa rfl ?_
    refine ap rfl rfl rfl e3 rfl rfl ?_
    repeat refine aa rfl ?_
    refine aY rfl rfl rfl e4 rfl rfl rfl ?_
    repeat refine aa rfl ?_
    refine ah 22 [27,28,29,30,31,32,33,34,35,36,37,38,39,40,41,42,43,44,45,46,47,48] (by decide +kernel) ?_
    repeat refine aa rfl ?_
    exact ⟨i + 1,⟨by omega,hall⟩,by omega,rfl,rfl,rfl,rfl,congrArg I hw,rfl,rfl,trivial⟩
 ·have hie : i = l.length := by have := of_decide_eq_false h;omega
  clear h
  rw [hie,List.drop_length,List.all_nil] at hall
  rw [← hall] at hF
  subst hF
  repeat refine aa rfl ?_
  exact bm rfl rfl rfl
theorem qU (b : BR) (hb : b.Ok) (a : AR) {z t : Rat} {n m : Nat} [ha : Va a z t n m] (hn : n + m ≤ 50000) (r : AR) {A B : Rat} {n' m' : Nat} (hr : Va r A B n' m') (h2 : n' ≤ 100000) (h3 : m' ≤ 100000) : Ret Tryz.prog .shared 169 [.agg (eA r),.dref (eB b) 0,.dref (eA a) 0] (.bool (fT b.l z t A B)) := by
 have h1 := vO b hb a (z := z) (t := t) hn r hr h2 h3
 generalize fT b.l z t A B = F at *
 refine Ret.of_pwp layOk mixed Go.Proofs.Tryz.func169 rfl (by decide) rfl rfl ?_
 repeat refine aa rfl ?_
 refine aY rfl rfl rfl h1 rfl rfl rfl ?_
 repeat refine aa rfl ?_
 exact bm rfl rfl rfl
def ly (p : AR → Bool) : List AR → Nat → Int
 |[],_ => -1
 |d :: l,i => if p d = true then (i : Int) else ly p l (i + 1)
theorem pp (p : AR → Bool) : ∀ (l : List AR) (i : Nat),decide (0 ≤ ly p l i) = l.any p
 |[],i => rfl
 |d :: l,i => by
  rw [ly,List.any_cons]
  cases h : p d
  ·rw [if_neg (by decide),pp p l (i + 1),Bool.false_or]
  ·rw [if_pos rfl,Bool.true_or,decide_eq_true];omega
theorem tC (p : AR → Bool) {l : List AR} {i : Nat} {x : AR} (h : l[i]? = some x) : ly p (l.drop i) i = if p x = true then (i : Int) else ly p (l.drop (i + 1)) (i + 1) := by
 obtain ⟨hl,rfl⟩ := List.getElem?_eq_some_iff.1 h
 rw [List.drop_eq_getElem_cons hl,ly]
set_option maxRecDepth 20000 in
theorem qS (T : List AR) (hT : T.length ≤ 1000) (f : FuncId) (c1 c2 : List PV) (p : AR → Bool) (hg : ∀ d ∈ T,Ret Tryz.prog .shared f [.agg (eA d),.dref c1 0,.dref c2 0] (.bool (p d))) : Ret Tryz.prog .shared 195 [.sl (T.map eA),.clo f [.dref c1 0,.dref c2 0]] (I (ly p T 0)) := by
 have hml : (T.map eA).length = T.length := by simp
 generalize hF : ly p T 0 = F
 refine Ret.of_pwp layOk mixed Go.Proofs.Tryz.func195 rfl (by decide) rfl rfl ?_
 repeat refine aa rfl ?_
 refine ao (fun i : Nat => i ≤ T.length ∧ ly p (T.drop i) i = F) (fun i => [(0,.sl (T.map eA)),(1,.clo f [.dref c1 0,.dref c2 0]),(7,I T.length),(8,I (i : Nat))])
  (fun _ => []) (fun i => T.length - i) 0 ⟨Nat.zero_le _,by rw [List.drop_zero];exact hF⟩ ⟨rfl,rfl,by rw [← hml];rfl,rfl,trivial⟩ ?_
 intro i s ⟨hi,hall⟩
 repeat refine aa rfl ?_
 refine ab rfl ?_ ?_<;>intro h
 ·have hlt : i < T.length := by have := of_decide_eq_true h;omega
  clear h
  obtain ⟨x,hx⟩ := aH hlt
  have hgx := hg x (List.mem_of_getElem? hx)
  have hw := jx i
  rw [tC p hx] at hall
  cases hp : p x with
  |true =>
   rw [hp] at hgx
   rw [if_pos hp] at hall
   repeat refine aa rfl ?_
   refine bO rfl rfl rfl rfl rfl rfl rfl hx rfl ?_
   repeat refine aa rfl ?_
   refine aY rfl rfl rfl hgx rfl rfl rfl ?_
   repeat refine aa rfl ?_
   exact bu rfl rfl (by rw [← hall])
  |false =>
   rw [hp] at hgx
   rw [if_neg (by rw [hp];decide)] at hall
   repeat refine aa rfl ?_
   refine bO rfl rfl rfl rfl rfl rfl rfl hx rfl ?_
   repeat refine aa rfl ?_
   refine aY rfl rfl rfl hgx rfl rfl rfl ?_
   repeat refine aa rfl ?_
   exact ⟨i + 1,⟨by omega,hall⟩,by omega,rfl,rfl,rfl,congrArg I hw,trivial⟩
 ·have hie : i = T.length := by have := of_decide_eq_false h;omega
  clear h
  rw [hie,List.drop_length,ly] at hall
  rw [← hall]
  repeat refine aa rfl ?_
  exact bu rfl rfl rfl
theorem mx (T : List AR) (hT : T.length ≤ 1000) (f : FuncId) (c1 c2 : List PV) (p : AR → Bool) (hg : ∀ d ∈ T,Ret Tryz.prog .shared f [.agg (eA d),.dref c1 0,.dref c2 0] (.bool (p d))) : Ret Tryz.prog .shared 168 [.sl (T.map eA),.clo f [.dref c1 0,.dref c2 0]] (.bool (T.any p)) := by
 have h1 := qS T hT f c1 c2 p hg
 rw [← pp p T 0]
 generalize ly p T 0 = F at *
 refine Ret.of_pwp layOk mixed Go.Proofs.Tryz.func168 rfl (by decide) rfl rfl ?_
 repeat refine aa rfl ?_
 refine aY rfl rfl rfl h1 rfl rfl rfl ?_
 repeat refine aa rfl ?_
 exact bm rfl rfl rfl
set_option maxRecDepth 20000 in
theorem rL {K : St → Prop} {s : St} {d g2 g3 : Nat} {R2 R3 : Cont} {x : Operand} {tys : Array TypeId} {ty : TypeId} {pos : String} {af : Array Edge} (l : List SR) (hl : fW l) (h12 : l.length ≤ 1000) (hck : bQ l = 0)
  (hx : s.ev x = .sl (l.map eS)) (ho : FitO s [(2,g2,R2),(1003,g3,R3)])
  (hK : ∀ (s1 : St) (g : Nat),K (({ reg := s.reg,own := (s1.over [] [(2,g2,R2),(1003,g3,R3),(3,g,⟨62,8,(bD l).map eA,1⟩)]).own } : St).putR d (.als 3 g 0 ((bD l).map eA).length))) :
  Sm Tryz.prog lay.get s ⟨some d,.call ⟨.value (.func 94),#[x],tys⟩,ty,pos,af,none⟩ K := by
 have hp := lO l hl h12
 have hrg : ∀ x ∈ bk l,-1000000 ≤ x ∧ x ≤ 1000000 := fun x hx => ez hck hx
 have hpl := fG l
 have w1 := aV 1 ⟨by decide,by decide⟩
 have w2 := aV (-1) ⟨by decide,by decide⟩
 rw [bD] at hK
 generalize bk l = Pl at *
 have hml : (Pl.map eN).length = Pl.length := by simp
 have hrows : ∀ (k : Nat) x,Pl[k]? = some x → ((Pl.take (k + 1)).map iW).map eA = ((Pl.take k).map iW).map eA ++ [eA (iW x)] := fun k x hx => by rw [cd hx,List.map_append,List.map_append];rfl
 have hrows2 : ∀ (k : Nat) x,Pl[k]? = some x → (Pl.map iW ++ (Pl.take (k + 1)).map pc).map eA = (Pl.map iW ++ (Pl.take k).map pc).map eA ++ [eA (pc x)] := fun k x hx => by rw [cd hx];simp [List.map_append]
 refine bB layOk rfl rfl Tryz.func94 rfl (by decide) rfl rfl ?_
 show PWP _ _ _ _ (aP s (([x] : List Operand).map s.ev ++ []))
 rw [show (([x] : List Operand).map s.ev ++ ([] : List PV)) = [.sl (l.map eS)] by simp [hx]]
 rw [show aP s [.sl (l.map eS)] = aP (s.over [] [(2,g2,R2),(1003,g3,R3)]) [.sl (l.map eS)] by rw [Fit.over (l := []) ho]]
 ((repeat (first | refine aS ?_ | refine b5 ?_ | refine bY ?_ | refine bX ?_));refine aX ?_)
 refine h_ rfl trivial ?_
 ((repeat (first | refine aS ?_ | refine b5 ?_ | refine bY ?_ | refine bX ?_));refine aX ?_)
 (first | refine ax (eW 62 8 1 rfl rfl ?_) | refine ax (eT 62 8 1 rfl rfl ?_))
 repeat refine aa rfl ?_
 refine ap rfl rfl rfl hp rfl rfl ?_
 repeat refine aa rfl ?_
 refine gR [(0,.sl (l.map eS)),(3,.als 3 ((s.own 3).1 + 1) 0 0),(9,.sl (Pl.map eN)),(10,I (Pl.map eN).length),(11,I ((0 : Nat) : Int))] [(2,g2,R2),(1003,g3,R3),(3,(s.own 3).1 + 1,⟨62,8,[],1⟩)] ⟨rfl,rfl,rfl,rfl,rfl,rfl,rfl,rfl,trivial⟩ ?_
 generalize (s.own 3).1 + 1 = g
 rw [hml]
 intro s0
 refine ao (fun k => k ≤ Pl.length) (fun k => [(0,.sl (l.map eS)),(3,.als 3 (g + k) 0 (((Pl.take k).map iW).map eA).length),(9,.sl (Pl.map eN)),(10,I Pl.length),(11,I k)]) (fun k => [(2,g2,R2),(1003,g3,R3),(3,g + k,⟨62,8,((Pl.take k).map iW).map eA,1⟩)]) (fun k => Pl.length - k) 0 (Nat.zero_le _) ⟨rfl,rfl,rfl,rfl,rfl,rfl,rfl,rfl,trivial⟩ ?_
 intro k s1 hk
 repeat refine aa rfl ?_
 refine ab rfl ?_ ?_<;>intro h
 ·have hlt : k < Pl.length := by have := of_decide_eq_true h;omega
  clear h
  obtain ⟨x,hx⟩ := aH hlt
  have hr := hrg x (List.mem_of_getElem? hx)
  have hnx := aV (-x) ⟨by omega,by omega⟩
  have hw := jx k
  have hn : IntKind.i64.wrap (0 - x) = -x := by rw [wrap_i64 (by omega) (by omega)];omega
  repeat refine aa rfl ?_
  refine bO rfl rfl rfl rfl rfl rfl rfl hx rfl ?_
  repeat refine aa rfl ?_
  rw [hn]
  refine ap rfl rfl rfl hnx rfl rfl ?_
  repeat refine aa rfl ?_
  refine ap rfl rfl rfl w1 rfl rfl ?_
  repeat refine aa rfl ?_
  refine ax (br 1 rfl rfl rfl rfl rfl rfl rfl rfl rfl rfl rfl (by repeat' constructor) rfl ?_)
  repeat refine aa rfl ?_
  refine ax (bP 1 rfl rfl rfl rfl rfl rfl rfl rfl rfl rfl rfl (by repeat' constructor) (by intro row hr;first | (simp at hr;subst hr;rfl) | simp at hr) rfl rfl (by simp;omega) (by simp;omega) ?_)
  repeat refine aa rfl ?_
  refine ⟨k + 1,hlt,by omega,rfl,?_,rfl,rfl,congrArg I hw,rfl,rfl,?_,trivial⟩
  ·rw [hrows k x hx];rfl
  ·rw [hrows k x hx];rfl
 ·have hge : k = Pl.length := by have := of_decide_eq_false h;omega
  subst hge
  clear h
  rw [List.take_length]
  repeat refine aa rfl ?_
  refine ap rfl rfl rfl hp rfl rfl ?_
  repeat refine aa rfl ?_
  refine ao (fun k => k ≤ Pl.length) (fun k => [(3,.als 3 (g + Pl.length + k) 0 ((Pl.map iW ++ (Pl.take k).map pc).map eA).length),(25,.sl (Pl.map eN)),(26,I Pl.length),(27,I k)]) (fun k => [(2,g2,R2),(1003,g3,R3),(3,g + Pl.length + k,⟨62,8,(Pl.map iW ++ (Pl.take k).map pc).map eA,1⟩)]) (fun k => Pl.length - k) 0 (Nat.zero_le _) ⟨by rw [List.take_zero,List.map_nil,List.append_nil];rfl,rfl,by rw [← hml];rfl,rfl,rfl,rfl,by rw [List.take_zero,List.map_nil,List.append_nil];rfl,trivial⟩ ?_
  intro k s2 hk
  repeat refine aa rfl ?_
  refine ab rfl ?_ ?_<;>intro h
  ·have hlt : k < Pl.length := by have := of_decide_eq_true h;omega
   clear h
   obtain ⟨x,hx⟩ := aH hlt
   have hr := hrg x (List.mem_of_getElem? hx)
   have hnx := aV x ⟨by omega,by omega⟩
   have hw := jx k
   repeat refine aa rfl ?_
   refine bO rfl rfl rfl rfl rfl rfl rfl hx rfl ?_
   repeat refine aa rfl ?_
   refine ap rfl rfl rfl hnx rfl rfl ?_
   repeat refine aa rfl ?_
   refine ap rfl rfl rfl w2 rfl rfl ?_
   repeat refine aa rfl ?_
   refine ax (br 1 rfl rfl rfl rfl rfl rfl rfl rfl rfl rfl rfl (by repeat' constructor) rfl ?_)
   repeat refine aa rfl ?_
   refine ax (bP 1 rfl rfl rfl rfl rfl rfl rfl rfl rfl rfl rfl (by repeat' constructor) (by intro row hr;first | (simp at hr;subst hr;rfl) | simp at hr) rfl rfl (by simp;omega) (by simp;omega) ?_)
   repeat refine aa rfl ?_
   refine ⟨k + 1,hlt,by omega,?_,rfl,rfl,congrArg I hw,rfl,rfl,?_,trivial⟩
   ·rw [hrows2 k x hx];rfl
   ·rw [hrows2 k x hx];rfl
  ·have hge : k = Pl.length := by have := of_decide_eq_false h;omega
   subst hge
   clear h
   rw [List.take_length]
   repeat refine aa rfl ?_
   exact n7 rfl rfl (hK s2 (g + Pl.length + Pl.length))
def p6 : AR := ⟨ofQ ((-1 : Int) : Rat),ofQ ((0 : Int) : Rat)⟩
def dH (l : List SR) : List AR := bD l ++ [bK,p6]
def cC (b : BR) (z t : Rat) : Bool := (dH b.l).any fun d => fT b.l z t d.z.val d.t.val
theorem yo {l : List SR} (hck : bQ l = 0) {r : AR} (h : r ∈ dH l) : Va r r.z.val r.t.val 4 4 := by
 rw [dH,List.mem_append] at h
 rcases h with h | h
 ·exact oK hck h
 ·simp at h
  rcases h with rfl | rfl
  ·exact nZ
  ·exact ⟨vI ⟨by decide,by decide⟩,vI ⟨by decide,by decide⟩⟩
theorem zi {r1 r2 : List PV} {n : Nat} (h1 : r1.length = n) (h2 : r2.length = n) : ∀ row ∈ [r1,r2],row.length = n := by
 intro row hr
 rcases List.mem_cons.1 hr with rfl | hr
 ·exact h1
 ·rcases List.mem_cons.1 hr with rfl | hr
  ·exact h2
  ·cases hr
set_option maxRecDepth 20000 in
theorem mU (b : BR) (hb : b.Ok) (a : AR) {z t : Rat} {n m : Nat} [ha : Va a z t n m] (hn : n + m ≤ 50000) : Ret Tryz.prog .shared 121 [.agg (eB b),.agg (eA a)] (.bool (cC b z t)) := by
 have hl := hb.lim.l
 have hck := hb.chkL
 have h12 := hb.few.1
 have hlen : (dH b.l).length ≤ 1000 := by
  have := fG b.l
  rw [dH,bD];simp;omega
 have hc := mx (dH b.l) hlen 169 (eB b) (eA a) (fun d => fT b.l z t d.z.val d.t.val) fun d hd => qU b hb a (z := z) (t := t) hn d (yo hck hd) (by decide) (by decide)
 rw [show (dH b.l).any (fun d => fT b.l z t d.z.val d.t.val) = cC b z t from rfl] at hc
 have w1 := aV 1 ⟨by decide,by decide⟩
 have w0 := aV 0 ⟨by decide,by decide⟩
 have w2 := aV (-1) ⟨by decide,by decide⟩
 generalize cC b z t = F at *
 have hT : (bD b.l).length ≤ 1000 := by rw [dH] at hlen;simp at hlen;omega
 have hrow : (bD b.l).map eA ++ [eA bK,eA p6] = (dH b.l).map eA := by rw [dH,List.map_append];rfl
 refine Ret.of_pwp layOk mixed Go.Proofs.Tryz.func121 rfl (by decide) rfl rfl ?_
 (repeat ((fail_if_success (with_reducible refine aM 1 ?_));refine cF rfl ?_))
 refine aB (Ghost.move (k := 3) (k' := 1003) (t := 3) rfl rfl rfl rfl) ?_
 ((repeat ((fail_if_success (with_reducible refine aM 1 ?_));refine cF rfl ?_));refine ay 2 ?_)
 iterate 2 refine aa rfl ?_
 refine aS ?_
 refine aI rfl (rL (g2 := 1) (g3 := 1) b.l hl (by omega) hck rfl ⟨rfl,rfl,trivial⟩ fun s1 g => ?_)
 refine aD ?_
 repeat refine aa rfl ?_
 refine ap rfl rfl rfl w1 rfl rfl ?_
 repeat refine aa rfl ?_
 refine ap rfl rfl rfl w0 rfl rfl ?_
 repeat refine aa rfl ?_
 refine ap rfl rfl rfl w2 rfl rfl ?_
 repeat refine aa rfl ?_
 refine ap rfl rfl rfl w0 rfl rfl ?_
 repeat refine aa rfl ?_
 refine ax (br 1 rfl rfl rfl rfl rfl rfl rfl rfl rfl rfl rfl (by repeat' constructor) rfl ?_)
 repeat refine aa rfl ?_
 refine ax (bP 1 rfl rfl rfl rfl rfl rfl rfl rfl rfl rfl rfl (by repeat' constructor) (zi rfl rfl) rfl rfl (by simp;omega) (by simp;omega) ?_)
 (repeat ((fail_if_success (with_reducible refine aM 2 ?_));refine cF rfl ?_))
 refine aB (Ghost.data (k := 2) (t := 2) rfl rfl rfl rfl) ?_
 refine aB (Ghost.data (k := 1003) (t := 3) rfl rfl rfl rfl) ?_
 repeat refine aa rfl ?_
 rw [← hrow] at hc
 refine aY rfl rfl rfl hc rfl rfl rfl ?_
 repeat refine aa rfl ?_
 exact bm rfl rfl rfl
theorem Bh (s : SR) (t : Rat) (k : Nat) : prB (bn s t k) = (s.k.s k - (s.c.val + t * (s.x : Rat)),s.k.m k - aQ s.k.m k) := by
 rw [prB,bn,ofQ_val,ofQ_val];rfl
theorem Ap (b : BR) (t : Rat) : (km b.l t).map prB = (bd b).bnds t := by
 rw [km,Bd.bnds,List.map_flatMap]
 show _ = (List.range b.l.length).flatMap ((bd b).bnd1 t)
 have e : ∀ s : SR,(kn t s).map prB = (List.range s.k.S.length).map fun k => (s.k.s k - (s.c.val + t * (s.x : Rat)),s.k.m k - aQ s.k.m k) := by
  intro s
  rw [kn,List.map_map]
  exact List.map_congr_left fun k _ => Bh s t k
 have key : ∀ (l : List SR),(l.flatMap fun s => (kn t s).map prB) = (List.range l.length).flatMap fun i => (kn t (l.getD i dS)).map prB := by
  intro l
  induction l with
  |nil => rfl
  |cons x l ih =>
   rw [List.flatMap_cons,ih,List.length_cons,List.range_succ_eq_map,List.flatMap_cons,List.flatMap_map]
   rfl
 rw [key]
 refine congrArg (fun f => (List.range b.l.length).flatMap f) (funext fun i => ?_)
 rw [e]
 rfl
theorem jW {b : BR} (hb : b.Ok) {t : Rat} (hex : ∃ z,(bd b).w ≤ (bd b).F z t) : (bd b).Least (ee b t) t := by
 refine Bd.settled_least (ej hb) hex ?_ ?_
 ·rw [← Ap]
  exact (cT aJ (km b.l t)).map prB
 ·rw [u6,List.pairwise_map]
  exact dN aJ (km b.l t)
theorem gA {b : BR} (hb : b.Ok) {t : Rat} (hex : ∃ z,(bd b).w ≤ (bd b).F z t) : ee b t = (bd b).sg t := (Bd.sg_eq (jW hb hex)).symm
theorem vZ {b : BR} (z t : Rat) : (bd b).Inl ((bd b).pL z t) z t := fun i hi => lN
theorem rH {b : BR} (hb : b.Ok) {t : Rat} {m : Nat} (ht : HQ t m) (hex : ∃ z,(bd b).w ≤ (bd b).F z t) : HQ (ee b t) (m + 5000) := by
 have hl := jW hb hex
 have hK := hl.K (ej hb) (vZ _ _)
 have hz := Bd.ln_at (ej hb) hl.1 (vZ (b := b) (ee b t) t).c hK
 rw [hz,Bd.ln]
 have hw : Zb b.w := a8 hb.lim.w.1 hb.lim.w.2
 have wq : HQ ((bd b).w) 4 := HQ.int
 have hpn : ∀ i,i < b.l.length → (bd b).pL (ee b t) t i ≤ (bd b).n i := fun i hi => (vZ (b := b) (ee b t) t i hi).1
 have fo := zE hb hpn
 have kc := uP hb ((bd b).pL (ee b t) t)
 have kh := uR hb ((bd b).pL (ee b t) t)
 exact (@HQ.div _ _ _ 300 (@HQ.sub _ _ _ _ (@HQ.sub _ _ 4 4100 wq fo) (@HQ.mul _ _ 300 m kc ht)) kh).mono (by omega)
theorem xC {b : BR} (hb : b.Ok) {t : Rat} {m : Nat} (ht : HQ t m) (hex : ∃ z,(bd b).w ≤ (bd b).F z t) : Va ⟨ofQ (ee b t),ofQ t⟩ (ee b t) t (m + 5000) m := ⟨Vq.ofQ (h := rH hb ht hex),Vq.ofQ (h := ht)⟩
theorem pj {b : BR} (hb : b.Ok) {t : Rat} {m : Nat} (ht : HQ t m) (hm : m ≤ 20000) (hex : ∃ z,(bd b).w ≤ (bd b).F z t) : Ret Tryz.prog .shared 164 [.agg (eB b),.agg (eA ⟨ofQ (ee b t),ofQ t⟩)] (.agg (eR (ofQ ((bd b).E t)))) := by
 have := lk b hb ⟨ofQ (ee b t),ofQ t⟩ (ha := xC hb ht hex) (by omega)
 rwa [show (bd b).e (ee b t) t = (bd b).E t by rw [Bd.E,gA hb hex]] at this
theorem uj {b : BR} (hb : b.Ok) {t : Rat} {m : Nat} (ht : HQ t m) (hm : m ≤ 20000) (hex : ∃ z,(bd b).w ≤ (bd b).F z t) : Ret Tryz.prog .shared 98 [.agg (eR (ofQ ((bd b).E t)))] (I (sgn ((bd b).E t))) := by
 have h1 := Au hb (rH hb ht hex) ht
 rw [show (bd b).e (ee b t) t = (bd b).E t by rw [Bd.E,gA hb hex]] at h1
 exact l6 (ofQ ((bd b).E t)) (hx := Vq.ofQ (h := h1)) (by omega)
theorem lu {b : BR} (hb : b.Ok) {t : Rat} {m : Nat} (ht : HQ t m) (hm : m ≤ 20000) (hex : ∃ z,(bd b).w ≤ (bd b).F z t) : Ret Tryz.prog .shared 167 [.agg (eB b),.agg (eA ⟨ofQ (ee b t),ofQ t⟩)] (zP ((bd b).guess ((bd b).sg t) t)) := by
 have := tB b hb ⟨ofQ (ee b t),ofQ t⟩ (ha := xC hb ht hex) (by omega)
 rwa [← gA hb hex]
def p2 (k : Nat) : Rat := ((2 ^ k : Nat) : Int)
theorem jg (k : Nat) : p2 (k + 1) = p2 k + p2 k := by
 rw [p2,p2,Nat.pow_succ,show ((2 ^ k * 2 : Nat) : Int) = ((2 ^ k : Nat) : Int) + ((2 ^ k : Nat) : Int) by omega]
 push_cast
 rfl
theorem pU {k : Nat} : HQ (p2 k) (k / 16 + 1) := by
 refine ⟨iB ?_ (by omega)⟩
 rw [Int.natAbs_natCast,show (65536 : Nat) = 2 ^ 16 by decide,← Nat.pow_mul]
 exact Nat.pow_lt_pow_right (by decide) (by omega)
theorem yj {b : Bd} {n : Nat} {w : Rat} : b.dbl (-1) (n + 1) w = if 0 < b.E (-w) then b.dbl (-1) n (w + w) else some w := by
 rw [Bd.dbl]
 have e : (-1 : Rat) * w = -w := by grind
 rw [e]
 by_cases h : 0 < b.E (-w)
 ·rw [if_pos h,if_pos (by grind)]
 ·rw [if_neg h,if_neg (by grind)]
theorem yk {b : Bd} {n : Nat} {w : Rat} : b.dbl 1 (n + 1) w = if b.E w < 0 then b.dbl 1 n (w + w) else some w := by
 rw [Bd.dbl]
 have e : (1 : Rat) * w = w := by grind
 rw [e]
 by_cases h : b.E w < 0
 ·rw [if_pos h,if_pos (by grind)]
 ·rw [if_neg h,if_neg (by grind)]
def Dy (N j : Nat) (t : Rat) : Prop := ∃ a : Int,t = (a : Rat) / ((2 ^ j : Nat) : Int) ∧ a.natAbs ≤ 2 ^ (j + N)
theorem xQ (j : Nat) : (((2 ^ j : Nat) : Int)) ≠ 0 := by have := Nat.two_pow_pos j;omega
theorem Dy.hq {N j : Nat} {t : Rat} (h : Dy N j t) : HQ t ((j + N) / 16 + 1) := by
 obtain ⟨a,rfl,ha⟩ := h
 have key : 2 ^ (j + N) < 65536 ^ ((j + N) / 16 + 1) := by
  rw [show (65536 : Nat) = 2 ^ 16 by decide,← Nat.pow_mul]
  exact Nat.pow_lt_pow_right (by decide) (by omega)
 have h2 : 2 ^ j ≤ 2 ^ (j + N) := Nat.pow_le_pow_right (by decide) (by omega)
 exact ⟨lx (xQ j) (by omega) (by rw [Int.natAbs_natCast];omega)⟩
theorem Dy.mid {N j : Nat} {lo hi : Rat} (h1 : Dy N j lo) (h2 : Dy N j hi) : Dy N (j + 1) ((lo + hi) / 2) := by
 obtain ⟨a,rfl,ha⟩ := h1
 obtain ⟨c,rfl,hc⟩ := h2
 refine ⟨a + c,?_,?_⟩
 ·have e : (((2 ^ (j + 1) : Nat) : Int) : Rat) = 2 * (((2 ^ j : Nat) : Int) : Rat) := by
   rw [Nat.pow_succ,show ((2 ^ j * 2 : Nat) : Int) = 2 * ((2 ^ j : Nat) : Int) by omega];push_cast;rfl
  have hn : (((2 ^ j : Nat) : Int) : Rat) ≠ 0 := by have := xQ j;exact_mod_cast this
  rw [e]
  push_cast
  generalize (((2 ^ j : Nat) : Int) : Rat) = D at *
  grind
 ·rw [show j + 1 + N = (j + N) + 1 by omega,Nat.pow_succ]
  omega
theorem Dy.up {N j : Nat} {t : Rat} (h : Dy N j t) : Dy N (j + 1) t := by
 have := Dy.mid h h
 rwa [show (t + t) / 2 = t by grind] at this
noncomputable def f3 (b : Bd) : List Rat → Option (Rat × Rat)
 |[] => none
 |t :: r => match b.at1 t with
  |some x => some x
  |none => f3 b r
theorem yy (b : Bd) (lo hi : Rat) : b.fst3 lo hi = f3 b [0,lo,hi] := by
 rw [Bd.fst3,f3,f3,f3,f3]
 cases b.at1 0 <;> cases b.at1 lo <;> cases b.at1 hi <;> rfl
set_option maxRecDepth 20000 in
theorem mN (b : BR) (hb : b.Ok) (h40 : ∀ t,(km b.l t).length ≤ 40) (hex : ∀ t,∃ z,(bd b).w ≤ (bd b).F z t) {N : Nat} (hN : N ≤ 150000) {x : Rat × Rat} (hx : (bd b).eqQ N = some x) : Ret Tryz.prog .shared 120 [.agg (eB b)] (.agg (eA ⟨ofQ x.1,ofQ x.2⟩)) := by
 have w1 := aV 1 ⟨by decide,by decide⟩
 have wm := aV (-1) ⟨by decide,by decide⟩
 rw [show (((1 : Int) : Int) : Rat) = p2 0 from rfl] at w1
 rw [show (((-1 : Int) : Int) : Rat) = -p2 0 by rw [show p2 0 = 1 from rfl];rfl] at wm
 rw [Bd.eqQ] at hx
 obtain ⟨Wl,hWl⟩ : ∃ W,(bd b).dbl (-1) N 1 = some W := by
  cases h : (bd b).dbl (-1) N 1 with
  |none => rw [h] at hx;cases hx
  |some W => exact ⟨W,rfl⟩
 obtain ⟨Wh,hWh⟩ : ∃ W,(bd b).dbl 1 N 1 = some W := by
  cases h : (bd b).dbl 1 N 1 with
  |none => rw [hWl,h] at hx;cases hx
  |some W => exact ⟨W,rfl⟩
 rw [hWl,hWh] at hx
 simp only at hx
 have row : ∀ (t : Rat) (m : Nat),HQ t m → m ≤ 20000 → Ret Tryz.prog .shared 165 [.agg (eB b),.agg (eR (ofQ t))] (.agg (eA ⟨ofQ (ee b t),ofQ t⟩)) ∧ Ret Tryz.prog .shared 164 [.agg (eB b),.agg (eA ⟨ofQ (ee b t),ofQ t⟩)] (.agg (eR (ofQ ((bd b).E t)))) ∧ Ret Tryz.prog .shared 98 [.agg (eR (ofQ ((bd b).E t)))] (I (sgn ((bd b).E t))) := fun t m ht hm =>
  ⟨qc b hb (h40 t) (ofQ t) (ht := Vq.ofQ (h := ht)) (by omega),pj hb ht hm (hex t),uj hb ht hm (hex t)⟩
 refine Ret.of_pwp layOk mixed Go.Proofs.Tryz.func120 rfl (by decide) rfl rfl ?_
 repeat refine aa rfl ?_
 refine ap rfl rfl rfl w1 rfl rfl ?_
 repeat refine aa rfl ?_
 refine ap rfl rfl rfl wm rfl rfl ?_
 repeat refine aa rfl ?_
 refine ap rfl rfl rfl w1 rfl rfl ?_
 repeat refine aa rfl ?_
 refine ao (fun k : Nat => k < N ∧ (bd b).dbl (-1) (N - k) (p2 k) = some Wl) (fun k => [(1,.ptr 1 1 0 0),(2,.ptr 2 1 0 0),(3,.ptr 3 1 0 0),(4,.ptr 4 1 0 0),(5,.ptr 5 1 0 0)])
  (fun k => [(1,1,⟨29,6,[eB b],2⟩),(2,1,⟨40,8,[zN ++ zN],2⟩),(3,1,⟨26,4,[eR (ofQ (p2 k))],2⟩),(4,1,⟨26,4,[eR (ofQ (-p2 k))],2⟩),(5,1,⟨26,4,[eR (ofQ (p2 0))],2⟩)]) (fun k => N - k) 0
  ⟨by rcases Nat.eq_zero_or_pos N with h | h;· subst h;cases hWl
      exact h,hWl⟩ ⟨rfl,rfl,rfl,rfl,rfl,rfl,rfl,rfl,rfl,rfl,trivial⟩ ?_
 intro k s ⟨hk,hd⟩
 obtain ⟨j,hj⟩ : ∃ j,N - k = j + 1 := ⟨N - k - 1,by omega⟩
 rw [hj,yj] at hd
 have hq : HQ (p2 k) 10000 := pU.mono (by omega)
 have hqn : HQ (-p2 k) 10000 := @HQ.neg _ _ hq
 obtain ⟨r1,r2,r3⟩ := row (-p2 k) 10000 hqn (by decide)
 have hsg := gx ((bd b).E (-p2 k))
 have n1 := dw (ofQ (p2 k)) (ofQ (p2 k)) (hx := Vq.ofQ (h := hq)) (hy := Vq.ofQ (h := hq)) (by decide) (by decide)
 rw [← jg] at n1
 have hq1 : HQ (p2 (k + 1)) 10000 := pU.mono (by omega)
 have n2 := Br (ofQ (p2 (k + 1))) (hx := Vq.ofQ (h := hq1)) (by decide)
 rw [← jg] at hd
 repeat refine aa rfl ?_
 refine ah 7 [19,20,21,22,23,24,25] (by decide +kernel) ?_
 repeat refine aa rfl ?_
 refine ap rfl rfl rfl r1 rfl rfl ?_
 repeat refine aa rfl ?_
 refine ap rfl rfl rfl r2 rfl rfl ?_
 repeat refine aa rfl ?_
 refine aY rfl rfl rfl r3 rfl rfl rfl ?_
 repeat refine aa rfl ?_
 refine ab rfl ?_ ?_<;>intro h
 ·have h1 := hsg.1 (of_decide_eq_true h)
  clear h
  rw [if_pos h1] at hd
  repeat refine aa rfl ?_
  refine ap rfl rfl rfl n1 rfl rfl ?_
  repeat refine aa rfl ?_
  refine ap rfl rfl rfl n2 rfl rfl ?_
  repeat refine aa rfl ?_
  have hk1 : k + 1 < N := by
   rcases Nat.lt_or_ge (k + 1) N with h | h
   ·exact h
   ·rw [show j = 0 by omega] at hd;cases hd
  have hd1 : (bd b).dbl (-1) (N - (k + 1)) (p2 (k + 1)) = some Wl := by rw [show N - (k + 1) = j by omega];exact hd
  exact ⟨k + 1,⟨hk1,hd1⟩,by omega,rfl,rfl,rfl,rfl,rfl,rfl,rfl,rfl,rfl,rfl,trivial⟩
 ·have h1 : ¬ 0 < (bd b).E (-p2 k) := fun h2 => (of_decide_eq_false h) (hsg.2 h2)
  clear h
  rw [if_neg h1] at hd
  cases hd
  clear hWl hj r1 r2 r3 hsg n1 n2 hq1
  repeat refine aa rfl ?_
  refine ap rfl rfl rfl w1 rfl rfl ?_
  repeat refine aa rfl ?_
  refine ao (fun k' : Nat => k' < N ∧ (bd b).dbl 1 (N - k') (p2 k') = some Wh) (fun k' => [(1,.ptr 1 1 0 0),(2,.ptr 2 1 0 0),(3,.ptr 3 1 0 0),(4,.ptr 4 1 0 0),(5,.ptr 5 1 0 0)])
   (fun k' => [(1,1,⟨29,6,[eB b],2⟩),(2,1,⟨40,8,[zN ++ zN],2⟩),(3,1,⟨26,4,[eR (ofQ (p2 k'))],2⟩),(4,1,⟨26,4,[eR (ofQ (-p2 k))],2⟩),(5,1,⟨26,4,[eR (ofQ (p2 k'))],2⟩)]) (fun k' => N - k') 0
   ⟨by omega,hWh⟩ ⟨rfl,rfl,rfl,rfl,rfl,rfl,rfl,rfl,rfl,rfl,trivial⟩ ?_
  intro q s2 ⟨hk',hd⟩
  obtain ⟨j,hj⟩ : ∃ j,N - q = j + 1 := ⟨N - q - 1,by omega⟩
  rw [hj,yk] at hd
  have hqq : HQ (p2 q) 10000 := pU.mono (by omega)
  obtain ⟨r1,r2,r3⟩ := row (p2 q) 10000 hqq (by decide)
  have hsg := cg ((bd b).E (p2 q))
  have n1 := dw (ofQ (p2 q)) (ofQ (p2 q)) (hx := Vq.ofQ (h := hqq)) (hy := Vq.ofQ (h := hqq)) (by decide) (by decide)
  rw [← jg] at n1
  rw [← jg] at hd
  repeat refine aa rfl ?_
  refine ah 7 [32,33,34,35,36,37,38] (by decide +kernel) ?_
  repeat refine aa rfl ?_
  refine ap rfl rfl rfl r1 rfl rfl ?_
  repeat refine aa rfl ?_
  refine ap rfl rfl rfl r2 rfl rfl ?_
  repeat refine aa rfl ?_
  refine aY rfl rfl rfl r3 rfl rfl rfl ?_
  repeat refine aa rfl ?_
  refine ab rfl ?_ ?_<;>intro h
  ·have h1 := hsg.1 (of_decide_eq_true h)
   clear h
   rw [if_pos h1] at hd
   repeat refine aa rfl ?_
   refine ap rfl rfl rfl n1 rfl rfl ?_
   repeat refine aa rfl ?_
   have hk1 : q + 1 < N := by
    rcases Nat.lt_or_ge (q + 1) N with h | h
    ·exact h
    ·rw [show j = 0 by omega] at hd;cases hd
   have hd1 : (bd b).dbl 1 (N - (q + 1)) (p2 (q + 1)) = some Wh := by rw [show N - (q + 1) = j by omega];exact hd
   exact ⟨q + 1,⟨hk1,hd1⟩,by omega,rfl,rfl,rfl,rfl,rfl,rfl,rfl,rfl,rfl,rfl,trivial⟩
  ·have h1 : ¬ (bd b).E (p2 q) < 0 := fun h2 => (of_decide_eq_false h) (hsg.2 h2)
   clear h
   rw [if_neg h1] at hd
   cases hd
   clear hWh hj r1 r2 r3 hsg n1
   have w0 := aV 0 ⟨by decide,by decide⟩
   rw [show (((0 : Int)) : Rat) = 0 from rfl] at w0
   rw [yy] at hx
   have hL : ∀ t ∈ [0,-p2 k,p2 q],HQ t 10000 := by
    intro t ht
    simp at ht
    rcases ht with rfl | rfl | rfl
    ·exact HQ.zero.mono (by decide)
    ·exact hqn
    ·exact hqq
   repeat refine aa rfl ?_
   refine bM [46] [3,4] (by decide +kernel) ?_
   repeat refine aa rfl ?_
   refine ap rfl rfl rfl w0 rfl rfl ?_
   repeat refine aa rfl ?_
   refine Aa rfl rfl rfl (br 1 rfl rfl rfl rfl rfl rfl rfl rfl rfl rfl rfl (by repeat' constructor) rfl ⟨q9 rfl,?_⟩)
   repeat refine aa rfl ?_
   have hrows : ([0,-p2 k,p2 q] : List Rat).map (fun t => eR (ofQ t)) = [eR (ofQ 0),eR (ofQ (-p2 k)),eR (ofQ (p2 q))] := rfl
   refine gR [(1,.ptr 1 1 0 0),(2,.ptr 2 1 0 0),(4,.ptr 4 1 0 0),(5,.ptr 5 1 0 0),(46,.als 46 ((s2.own 46).1 + 1) 0 3),(47,I 3),(48,I ((0 : Nat) : Int))]
    [(1,1,⟨29,6,[eB b],2⟩),(2,1,⟨40,8,[zN ++ zN],2⟩),(4,1,⟨26,4,[eR (ofQ (-p2 k))],2⟩),(5,1,⟨26,4,[eR (ofQ (p2 q))],2⟩),(46,(s2.own 46).1 + 1,⟨26,4,[eR (ofQ 0),eR (ofQ (-p2 k)),eR (ofQ (p2 q))],1⟩)]
    ⟨rfl,rfl,rfl,rfl,rfl,rfl,rfl,rfl,rfl,rfl,rfl,rfl,trivial⟩ ?_
   generalize (s2.own 46).1 + 1 = g
   rw [← hrows]
   intro s3
   generalize hLL : ([0,-p2 k,p2 q] : List Rat) = T3 at *
   have hT3 : T3.length = 3 := by rw [← hLL];rfl
   refine ao (fun i : Nat => i ≤ 3 ∧ (match f3 (bd b) (T3.drop i) with | some x => some x | none => (bd b).bis N (-p2 k) (p2 q)) = some x) (fun i => [(1,.ptr 1 1 0 0),(2,.ptr 2 1 0 0),(4,.ptr 4 1 0 0),(5,.ptr 5 1 0 0),(46,.als 46 g 0 3),(47,I 3),(48,I (i : Nat))])
    (fun i => [(1,1,⟨29,6,[eB b],2⟩),(2,1,⟨40,8,[zN ++ zN],2⟩),(4,1,⟨26,4,[eR (ofQ (-p2 k))],2⟩),(5,1,⟨26,4,[eR (ofQ (p2 q))],2⟩),(46,g,⟨26,4,T3.map (fun t => eR (ofQ t)),1⟩)]) (fun i => 3 - i) 0
    ⟨Nat.zero_le _,hx⟩ ⟨rfl,rfl,rfl,rfl,rfl,rfl,rfl,rfl,rfl,rfl,rfl,rfl,trivial⟩ ?_
   intro i s4 ⟨hi,hF⟩
   repeat refine aa rfl ?_
   refine ab rfl ?_ ?_<;>intro h
   ·have hlt : i < 3 := by have := of_decide_eq_true h;omega
    clear h
    obtain ⟨t,ht⟩ := aH (show i < T3.length by omega)
    have hrow : (T3.map (fun t => eR (ofQ t)))[i]? = some (eR (ofQ t)) := by rw [List.getElem?_map,ht];rfl
    have htq := hL t (List.mem_of_getElem? ht)
    have hw := jx i
    obtain ⟨r1,r2,r3⟩ := row t 10000 htq (by decide)
    have hgs := lu hb htq (by decide) (hex t)
    have hdr : f3 (bd b) (T3.drop i) = match (bd b).at1 t with | some x => some x | none => f3 (bd b) (T3.drop (i + 1)) := by
     obtain ⟨hl1,h2⟩ := List.getElem?_eq_some_iff.1 ht
     rw [List.drop_eq_getElem_cons hl1,h2,f3]
    rw [hdr,Bd.at1,← gA hb (hex t)] at hF
    rw [← gA hb (hex t)] at hgs
    repeat refine aa rfl ?_
    refine gS rfl rfl rfl rfl rfl rfl rfl rfl rfl ?_
    rw [Int.toNat_natCast,Nat.zero_add i]
    refine bp rfl rfl (bG rfl rfl rfl hrow rfl) ?_
    repeat refine aa rfl ?_
    refine ap rfl rfl rfl r1 rfl rfl ?_
    repeat refine aa rfl ?_
    refine ap rfl rfl rfl r2 rfl rfl ?_
    repeat refine aa rfl ?_
    refine aY rfl rfl rfl r3 rfl rfl rfl ?_
    repeat refine aa rfl ?_
    have hs0 := jS ((bd b).E t)
    refine ab rfl ?_ ?_<;>intro h
    ·have h1 := hs0.1 (of_decide_eq_true h)
     clear h
     rw [if_pos h1] at hF
     simp only [Option.some.injEq] at hF
     subst hF
     repeat refine aa rfl ?_
     exact aK rfl rfl rfl
    ·have h1 : ¬ (bd b).E t = 0 := fun h2 => (of_decide_eq_false h) (hs0.2 h2)
     clear h
     rw [if_neg h1] at hF
     cases hgg : (bd b).guess (ee b t) t with
     |none =>
      rw [hgg] at hgs hF
      simp only at hF
      rw [zP] at hgs
      repeat refine aa rfl ?_
      refine ap rfl rfl rfl hgs rfl rfl ?_
      repeat refine aa rfl ?_
      exact ⟨i + 1,⟨by omega,hF⟩,by omega,rfl,rfl,rfl,rfl,rfl,rfl,congrArg I hw,rfl,rfl,rfl,rfl,rfl,trivial⟩
     |some y =>
      rw [hgg] at hgs hF
      simp only [Option.some.injEq] at hF
      subst hF
      rw [zP] at hgs
      repeat refine aa rfl ?_
      refine ap rfl rfl rfl hgs rfl rfl ?_
      repeat refine aa rfl ?_
      exact aK rfl rfl rfl
   ·have hie : i = 3 := by have := of_decide_eq_false h;omega
    clear h
    rw [hie,List.drop_eq_nil_of_le (by omega),f3] at hF
    simp only at hF
    have hd0 : Dy N 0 (-p2 k) := ⟨-((2 ^ k : Nat) : Int),by rw [p2];push_cast;grind,by rw [Int.natAbs_neg,Int.natAbs_natCast];exact Nat.pow_le_pow_right (by decide) (by omega)⟩
    have hd1 : Dy N 0 (p2 q) := ⟨((2 ^ q : Nat) : Int),by rw [p2];push_cast;grind,by rw [Int.natAbs_natCast];exact Nat.pow_le_pow_right (by decide) (by omega)⟩
    have w2 := aV 2 ⟨by decide,by decide⟩
    rw [show (((2 : Int)) : Rat) = 2 from rfl] at w2
    have v2 : Vq (ofQ 2) 2 4 := Vq.ofQ (h := HQ.two)
    repeat refine aa rfl ?_
    refine ao (fun u : Nat × Rat × Rat => u.1 ≤ N ∧ (bd b).bis (N - u.1) u.2.1 u.2.2 = some x ∧ Dy N u.1 u.2.1 ∧ Dy N u.1 u.2.2) (fun u => [(1,.ptr 1 1 0 0),(2,.ptr 2 1 0 0),(4,.ptr 4 1 0 0),(5,.ptr 5 1 0 0)])
     (fun u => [(1,1,⟨29,6,[eB b],2⟩),(2,1,⟨40,8,[zN ++ zN],2⟩),(4,1,⟨26,4,[eR (ofQ u.2.1)],2⟩),(5,1,⟨26,4,[eR (ofQ u.2.2)],2⟩)]) (fun u => N - u.1) (0,-p2 k,p2 q)
     ⟨Nat.zero_le _,hF,hd0,hd1⟩ ⟨rfl,rfl,rfl,rfl,rfl,rfl,rfl,rfl,trivial⟩ ?_
    rintro ⟨j,lo,hi⟩ s5 ⟨hj,hB,hlo,hhi⟩
    simp only at hj hB hlo hhi
    dsimp only
    obtain ⟨n,hn⟩ : ∃ n,N - j = n + 1 := by
     rcases Nat.eq_zero_or_pos (N - j) with h | h
     ·rw [h] at hB;cases hB
     ·exact ⟨N - j - 1,by omega⟩
    rw [hn,Bd.bis] at hB
    have hm := hlo.mid hhi
    have hl2 := hlo.up
    have hh2 := hhi.up
    have ql := hlo.hq
    have qh := hhi.hq
    have qm := hm.hq
    have a1 := dw (ofQ lo) (ofQ hi) (hx := Vq.ofQ (h := ql)) (hy := Vq.ofQ (h := qh)) (by omega) (by omega)
    have vs : Vq (ofQ (lo + hi)) (lo + hi) ((j + N) / 16 + 1 + ((j + N) / 16 + 1) + 1) := Vq.ofQ (h := @HQ.add _ _ _ _ ql qh)
    have a2 := pQ (ofQ (lo + hi)) (ofQ 2) (hx := vs) (hy := v2) (by omega) (by decide) (by decide)
    obtain ⟨r1,r2,r3⟩ := row ((lo + hi) / 2) _ qm (by omega)
    have hgs := lu hb qm (by omega) (hex ((lo + hi) / 2))
    rw [Bd.at1,← gA hb (hex ((lo + hi) / 2))] at hB
    rw [← gA hb (hex ((lo + hi) / 2))] at hgs
    generalize (lo + hi) / 2 = t at *
    have hs0 := jS ((bd b).E t)
    have hs1 := cg ((bd b).E t)
    repeat refine aa rfl ?_
    refine ap rfl rfl rfl a1 rfl rfl ?_
    repeat refine aa rfl ?_
    refine ap rfl rfl rfl w2 rfl rfl ?_
    repeat refine aa rfl ?_
    refine ap rfl rfl rfl a2 rfl rfl ?_
    repeat refine aa rfl ?_
    refine ap rfl rfl rfl r1 rfl rfl ?_
    repeat refine aa rfl ?_
    refine ap rfl rfl rfl r2 rfl rfl ?_
    repeat refine aa rfl ?_
    refine aY rfl rfl rfl r3 rfl rfl rfl ?_
    repeat refine aa rfl ?_
    refine ab rfl ?_ ?_<;>intro h
    ·have h1 := hs0.1 (of_decide_eq_true h)
     clear h
     rw [if_pos h1] at hB
     simp only [Option.some.injEq] at hB
     subst hB
     repeat refine aa rfl ?_
     exact aK rfl rfl rfl
    ·have h1 : ¬ (bd b).E t = 0 := fun h2 => (of_decide_eq_false h) (hs0.2 h2)
     clear h
     rw [if_neg h1] at hB
     cases hgg : (bd b).guess (ee b t) t with
     |none =>
      rw [hgg] at hgs hB
      simp only at hB
      rw [zP] at hgs
      repeat refine aa rfl ?_
      refine ap rfl rfl rfl hgs rfl rfl ?_
      repeat refine aa rfl ?_
      refine ab rfl ?_ ?_<;>intro h
      ·have h2 := hs1.1 (of_decide_eq_true h)
       clear h
       rw [if_pos h2] at hB
       repeat refine aa rfl ?_
       exact ⟨(j + 1,t,hi),⟨by simp only;omega,by simp only;rw [show N - (j + 1) = n by omega];exact hB,hm,hh2⟩,by simp only;omega,rfl,rfl,rfl,rfl,rfl,rfl,rfl,rfl,trivial⟩
      ·have h2 : ¬ (bd b).E t < 0 := fun h3 => (of_decide_eq_false h) (hs1.2 h3)
       clear h
       rw [if_neg h2] at hB
       repeat refine aa rfl ?_
       exact ⟨(j + 1,lo,t),⟨by simp only;omega,by simp only;rw [show N - (j + 1) = n by omega];exact hB,hl2,hm⟩,by simp only;omega,rfl,rfl,rfl,rfl,rfl,rfl,rfl,rfl,trivial⟩
     |some y =>
      rw [hgg] at hgs hB
      simp only [Option.some.injEq] at hB
      subst hB
      rw [zP] at hgs
      repeat refine aa rfl ?_
      refine ap rfl rfl rfl hgs rfl rfl ?_
      repeat refine aa rfl ?_
      exact aK rfl rfl rfl
theorem o7 {l : List Int} {x : Int} (h : x ∈ l) : x ∈ Lib.compact l := by
 have key : ∀ n (hn : n < l.length),∃ m,∃ hm : m < l.length,l[m] = l[n] ∧ Lib.keeps l.toArray m = true := by
  intro n
  induction n with
  |zero => intro hn;exact ⟨0,hn,rfl,by simp [Lib.keeps]⟩
  |succ n ih =>
   intro hn
   by_cases he : l[n + 1] = l[n]
   ·obtain ⟨m,hm,h1,h2⟩ := ih (by omega)
    exact ⟨m,hm,h1.trans he.symm,h2⟩
   ·refine ⟨n + 1,hn,rfl,?_⟩
    rw [Lib.keeps,decide_eq_true_eq]
    right
    simp only [List.getElem!_toArray,Nat.add_sub_cancel]
    rw [getElem!_pos l (n + 1) hn,getElem!_pos l n (by omega)]
    exact he
 obtain ⟨n,hn,hx⟩ := List.mem_iff_getElem.1 h
 obtain ⟨m,hm,h1,h2⟩ := key n hn
 rw [Lib.compact,Lib.compactUpTo]
 refine List.mem_map.2 ⟨m,List.mem_filter.2 ⟨List.mem_range.2 hm,h2⟩,?_⟩
 simp only [List.getElem!_toArray]
 rw [getElem!_pos l m hm,h1,hx]
theorem iH {l : List SR} {s : SR} (h : s ∈ l) : s.x ∈ bk l := by
 rw [bk]
 refine o7 ?_
 have : s.x ∈ l.map (·.x) := List.mem_map.2 ⟨s,h,rfl⟩
 exact (List.mergeSort_perm _ _).mem_iff.2 this
def fX (b : BR) : Prop := cx b bK = false ∧ ∀ r ∈ bD b.l,cx b r = false
theorem ec {b : BR} {A B : Rat} : jN b A B = true ↔ dT b.l A B b.l.length ∧ ac (yT b.l A B) b.l.length < (b.w : Rat) * (A + B * b.a.val) := by
 rw [jN,@decide_eq_true_iff _ (Classical.propDecidable _)]
theorem rg {b : BR} {A B : Rat} (h : jN b A B = false) : ¬ (dT b.l A B b.l.length ∧ ac (yT b.l A B) b.l.length < (b.w : Rat) * (A + B * b.a.val)) := by
 intro h1
 rw [ec.2 h1] at h
 cases h
theorem gO : (ofQ ((1 : Int) : Rat)).val = 1 := by rw [ofQ_val];rfl
theorem zero_val : (ofQ ((0 : Int) : Rat)).val = 0 := by rw [ofQ_val];rfl
theorem je : (ofQ ((-1 : Int) : Rat)).val = -1 := by rw [ofQ_val];rfl
theorem iJ {b : BR} (h : fX b) : ¬ ((∀ i,i < (bd b).N → (bd b).lim i) ∧ ac (bd b).cap (bd b).N < (bd b).w) := by
 have h1 := rg h.1
 rw [show bK.z.val = 1 from gO,show bK.t.val = 0 from zero_val] at h1
 intro ⟨h2,h3⟩
 refine h1 ⟨fun i hi _ => h2 i hi,?_⟩
 have e : ac (yT b.l 1 0) b.l.length = ac (bd b).cap (bd b).N := aT fun i hi => by
  rw [yT,if_pos (by grind)]
  show cI b.l i * (1 + 0 * xI b.l i) = cI b.l i
  grind
 rw [e]
 have h4 : ac (bd b).cap (bd b).N < (b.w : Rat) := h3
 grind
theorem pI {b : BR} (hb : b.Ok) (h : fX b) (t : Rat) : ∃ z,(bd b).Least z t :=
 ⟨_,jW hb (Bd.enough (ej hb) t (iJ h))⟩
theorem tR {b : BR} (h : fX b) : (bd b).NoTip := by
 intro s hs i0 hi0 hl hlt
 have hx := iH (aF (l := b.l) hi0)
 have key : ∀ A B : Rat,(∀ X : Rat,A + B * X = s * (X - (bd b).X i0)) → jN b A B = true := by
  intro A B hAB
  refine ec.2 ⟨fun i hi hp => hl i hi (by rw [hAB] at hp;exact hp),?_⟩
  have e : ac (yT b.l A B) b.l.length = ac (fun i => if 0 < s * ((bd b).X i - (bd b).X i0) then (bd b).cap i * (s * ((bd b).X i - (bd b).X i0)) else 0) (bd b).N := aT fun i hi => by
   rw [yT,hAB];rfl
  rw [e,hAB]
  exact hlt
 rcases hs with rfl | rfl
 ·have hm : pc (b.l.getD i0 dS).x ∈ bD b.l ∧ iW (b.l.getD i0 dS).x ∈ bD b.l := ⟨List.mem_append_right _ (List.mem_map.2 ⟨_,hx,rfl⟩),List.mem_append_left _ (List.mem_map.2 ⟨_,hx,rfl⟩)⟩
  have h1 := h.2 _ hm.2
  rw [cx,iW] at h1
  simp only [ofQ_val] at h1
  rw [key _ _ (fun X => by
   show ((-(b.l.getD i0 dS).x : Int) : Rat) + ((1 : Int) : Rat) * X = 1 * (X - ((b.l.getD i0 dS).x : Rat))
   push_cast;grind)] at h1
  cases h1
 ·have hm : pc (b.l.getD i0 dS).x ∈ bD b.l := List.mem_append_right _ (List.mem_map.2 ⟨_,hx,rfl⟩)
  have h1 := h.2 _ hm
  rw [cx,pc] at h1
  simp only [ofQ_val] at h1
  rw [key _ _ (fun X => by
   show ((b.l.getD i0 dS).x : Rat) + ((-1 : Int) : Rat) * X = -1 * (X - ((b.l.getD i0 dS).x : Rat))
   push_cast;grind)] at h1
  cases h1
theorem vR {b : BR} (hb : b.Ok) {z t : Rat} {x : Rat × Rat} (h : (bd b).guess z t = some x) : HQ x.1 20000 ∧ HQ x.2 20000 := by
 have key : ∀ p,(bd b).Inc p z t → (bd b).tryP z t p = some x → HQ x.1 20000 ∧ HQ x.2 20000 := by
  intro p hp h
  rw [Bd.tryP] at h
  split at h
  ·cases h
  ·rename_i d hd
   split at h
   ·cases h
    exact sd hb hp hd
   ·cases h
 rw [Bd.guess] at h
 split at h
 ·rename_i y hy
  cases h
  exact key _ (zR hb z t) hy
 ·exact key _ (zQ hb z t) h
theorem nL {b : BR} (hb : b.Ok) {t : Rat} {m : Nat} (ht : HQ t m) (hm : m ≤ 19000) (hex : ∃ z,(bd b).w ≤ (bd b).F z t) {x : Rat × Rat} (h : (bd b).at1 t = some x) : HQ x.1 24000 ∧ HQ x.2 20000 := by
 rw [Bd.at1] at h
 split at h
 ·cases h
  rw [← gA hb hex]
  exact ⟨(rH hb ht hex).mono (by omega),ht.mono (by omega)⟩
 ·have := vR hb h
  exact ⟨this.1.mono (by omega),this.2⟩
theorem Ao {b : BR} (hb : b.Ok) (hex : ∀ t,∃ z,(bd b).w ≤ (bd b).F z t) {N : Nat} (hN : N ≤ 150000) {x : Rat × Rat} : ∀ (n j : Nat) (lo hi : Rat),n + j ≤ N → Dy N j lo → Dy N j hi → (bd b).bis n lo hi = some x → HQ x.1 24000 ∧ HQ x.2 20000 := by
 intro n
 induction n with
 |zero => intro j lo hi _ _ _ h;cases h
 |succ n ih =>
  intro j lo hi hj hlo hhi h
  have hm := hlo.mid hhi
  rw [Bd.bis] at h
  split at h
  ·rename_i y hy
   cases h
   exact nL hb hm.hq (by omega) (hex _) hy
  ·split at h
   ·exact ih (j + 1) _ _ (by omega) hm hhi.up h
   ·exact ih (j + 1) _ _ (by omega) hlo.up hm h
theorem rX (b : Bd) (s : Rat) : ∀ (n k : Nat) (W : Rat),b.dbl s n (p2 k) = some W → ∃ m,m < n + k ∧ W = p2 m := by
 intro n
 induction n with
 |zero => intro k W h;cases h
 |succ n ih =>
  intro k W h
  rw [Bd.dbl] at h
  split at h
  ·rw [← jg] at h
   obtain ⟨m,h1,h2⟩ := ih (k + 1) W h
   exact ⟨m,by omega,h2⟩
  ·cases h
   exact ⟨k,by omega,rfl⟩
theorem Bo {b : BR} (hb : b.Ok) (hex : ∀ t,∃ z,(bd b).w ≤ (bd b).F z t) {x : Rat × Rat} (h : (bd b).eqQ 150000 = some x) : HQ x.1 24000 ∧ HQ x.2 20000 := by
 generalize hN : (150000 : Nat) = N at h
 rw [Bd.eqQ] at h
 split at h
 ·rename_i wl wh h1 h2
  obtain ⟨k,hk,rfl⟩ := rX _ _ _ 0 _ (show (bd b).dbl (-1) N (p2 0) = some wl from h1)
  obtain ⟨q,hq,rfl⟩ := rX _ _ _ 0 _ (show (bd b).dbl 1 N (p2 0) = some wh from h2)
  have hqk : HQ (p2 k) 10000 := pU.mono (by omega)
  have hqq : HQ (p2 q) 10000 := pU.mono (by omega)
  have hqn : HQ (-p2 k) 10000 := @HQ.neg _ _ hqk
  split at h
  ·rename_i y hy
   cases h
   rw [Bd.fst3] at hy
   split at hy
   ·rename_i z hz
    cases hy
    exact nL hb HQ.zero (by decide) (hex _) hz
   ·split at hy
    ·rename_i z hz
     cases hy
     exact nL hb hqn (by decide) (hex _) hz
    ·exact nL hb hqq (by decide) (hex _) hy
  ·refine Ao hb hex (N := N) (show N ≤ 150000 by omega) N 0 _ _ (by omega) ?_ ?_ h
   ·exact ⟨-((2 ^ k : Nat) : Int),by rw [p2];push_cast;grind,by rw [Int.natAbs_neg,Int.natAbs_natCast];exact Nat.pow_le_pow_right (by decide) (by omega)⟩
   ·exact ⟨((2 ^ q : Nat) : Int),by rw [p2];push_cast;grind,by rw [Int.natAbs_natCast];exact Nat.pow_le_pow_right (by decide) (by omega)⟩
 ·cases h
theorem zU (n : Nat) : 65536 ^ n = 2 ^ (16 * n) := by rw [show (65536 : Nat) = 2 ^ 16 by decide,← Nat.pow_mul]
theorem Bn {b : BR} (hb : b.Ok) (hs : (bd b).Sz) (h : fX b) : ∃ x,(bd b).eqQ 150000 = some x ∧ (bd b).Bal x.1 x.2 ∧ HQ x.1 24000 ∧ HQ x.2 20000 := by
 have hex : ∀ t,∃ z,(bd b).w ≤ (bd b).F z t := fun t => Bd.enough (ej hb) t (iJ h)
 obtain ⟨m,hm⟩ : ∃ m,m = 3000 := ⟨_,rfl⟩
 have hK : 65536 ^ 3000 = 2 ^ (16 * m) := by rw [← hm];exact zU m
 have hL : 65536 ^ (3000 + 3000 + 1) = 2 ^ (16 * (m + m + 1)) := by rw [← hm];exact zU (m + m + 1)
 obtain ⟨x,h1,h2⟩ := Bd.eq_some (ej hb) hs (pI hb h) (tR h) (n := 150000) hK hL (by omega) (by omega)
 exact ⟨x,h1,h2,Bo hb hex h1⟩
theorem ff {b : BR} (hb : b.Ok) {z t A B : Rat} : fT b.l z t A B = true ↔ (bd b).Free z t A B := by
 have hcr := (ej hb).crv
 rw [fT,List.all_eq_true]
 constructor
 ·intro h i hi
  have h1 := h _ (aF (l := b.l) hi)
  rw [qD,decide_eq_true_eq] at h1
  refine ⟨fun hp p hpr => ?_,fun hp p hpl => ?_⟩
  ·have e : p = (bd b).pR z t i := InR.uniq (hcr i hi) hpr ra
   subst e
   rcases Classical.em (rV (b.l.getD i dS) z t = 0) with g | g
   ·exact g
   ·exact absurd (.inl ⟨hp,g⟩) h1
  ·have e : p = (bd b).pL z t i := InL.uniq (hcr i hi) hpl lN
   subst e
   rcases Classical.em (lV (b.l.getD i dS) z t = 0) with g | g
   ·exact g
   ·exact absurd (.inr ⟨hp,g⟩) h1
 ·intro h s hs
  obtain ⟨i,hi,rfl⟩ := List.mem_iff_getElem.1 hs
  have e : b.l.getD i dS = b.l[i] := by rw [List.getD_eq_getElem?_getD,List.getElem?_eq_getElem hi];rfl
  obtain ⟨h1,h2⟩ := h i hi
  rw [qD,decide_eq_true_eq,← e]
  rintro (⟨g1,g2⟩ | ⟨g1,g2⟩)
  ·exact g2 (h1 g1 _ ra)
  ·exact g2 (h2 g1 _ lN)
theorem qV {b : BR} (hb : b.Ok) {z t : Rat} : cC b z t = true ↔ ∃ A B,(bd b).Dir A B ∧ (bd b).Free z t A B := by
 rw [cC,List.any_eq_true]
 constructor
 ·rintro ⟨d,hd,hf⟩
  rw [ff hb] at hf
  refine ⟨_,_,?_,hf⟩
  rw [dH,bD,List.mem_append,List.mem_append] at hd
  rcases hd with (hd | hd) | hd
  ·obtain ⟨x,hx,rfl⟩ := List.mem_map.1 hd
   obtain ⟨s,hs,rfl⟩ := iM hx
   obtain ⟨i,hi,rfl⟩ := List.mem_iff_getElem.1 hs
   have e : b.l.getD i dS = b.l[i] := by rw [List.getD_eq_getElem?_getD,List.getElem?_eq_getElem hi];rfl
   refine .inr (.inr ⟨i,hi,.inl ⟨?_,gO⟩⟩)
   rw [iW,ofQ_val]
   show _ = -((b.l.getD i dS).x : Rat)
   rw [e];push_cast;rfl
  ·obtain ⟨x,hx,rfl⟩ := List.mem_map.1 hd
   obtain ⟨s,hs,rfl⟩ := iM hx
   obtain ⟨i,hi,rfl⟩ := List.mem_iff_getElem.1 hs
   have e : b.l.getD i dS = b.l[i] := by rw [List.getD_eq_getElem?_getD,List.getElem?_eq_getElem hi];rfl
   refine .inr (.inr ⟨i,hi,.inr ⟨?_,je⟩⟩)
   rw [pc,ofQ_val]
   show _ = ((b.l.getD i dS).x : Rat)
   rw [e]
  ·simp at hd
   rcases hd with rfl | rfl
   ·exact .inl ⟨gO,zero_val⟩
   ·exact .inr (.inl ⟨je,zero_val⟩)
 ·rintro ⟨A,B,hd,hf⟩
  rcases hd with ⟨rfl,rfl⟩ | ⟨rfl,rfl⟩ | ⟨i,hi,⟨rfl,rfl⟩ | ⟨rfl,rfl⟩⟩
  ·refine ⟨bK,by simp [dH],?_⟩
   rw [ff hb,show bK.z.val = 1 from gO,show bK.t.val = 0 from zero_val];exact hf
  ·refine ⟨p6,by simp [dH],?_⟩
   rw [ff hb,show p6.z.val = -1 from je,show p6.t.val = 0 from zero_val];exact hf
  ·have hx := iH (aF (l := b.l) hi)
   refine ⟨iW (b.l.getD i dS).x,?_,?_⟩
   ·rw [dH,bD]
    exact List.mem_append_left _ (List.mem_append_left _ (List.mem_map.2 ⟨_,hx,rfl⟩))
   ·rw [ff hb,iW,gO,ofQ_val]
    have e : (((-(b.l.getD i dS).x : Int)) : Rat) = -(bd b).X i := by
     show _ = -((b.l.getD i dS).x : Rat)
     push_cast;rfl
    rw [e];exact hf
  ·have hx := iH (aF (l := b.l) hi)
   refine ⟨pc (b.l.getD i dS).x,?_,?_⟩
   ·rw [dH,bD]
    exact List.mem_append_left _ (List.mem_append_right _ (List.mem_map.2 ⟨_,hx,rfl⟩))
   ·rw [ff hb,pc,je,ofQ_val];exact hf
theorem fD {b : BR} (hb : b.Ok) {z t : Rat} (h : (bd b).Bal z t) : cC b z t = false ↔ ∀ z' t',(bd b).Bal z' t' → z' = z ∧ t' = t := by
 have h1 := qV (z := z) (t := t) hb
 rw [Bd.loose_iff (ej hb) h] at h1
 constructor
 ·intro h2 z' t' h3
  rcases Classical.em (z' = z) with g | g
  ·rcases Classical.em (t' = t) with g2 | g2
   ·exact ⟨g,g2⟩
   ·rw [h1.2 ⟨z',t',h3,.inr g2⟩] at h2;cases h2
  ·rw [h1.2 ⟨z',t',h3,.inl g⟩] at h2;cases h2
 ·intro h2
  cases hl : cC b z t with
  |false => rfl
  |true =>
   obtain ⟨z',t',h3,h4⟩ := h1.1 hl
   obtain ⟨rfl,rfl⟩ := h2 z' t' h3
   simp at h4
theorem rQ {b : BR} (hb : b.Ok) {z t : Rat} (h : (bd b).Bal z t) (A B : Rat) : jN b A B = false := by
 cases hr : jN b A B with
 |false => rfl
 |true =>
  obtain ⟨h1,h2⟩ := ec.1 hr
  have h3 := Bd.exclude (ej hb) h (A := A) (B := B) h1
  have e : ac (yT b.l A B) b.l.length = ac (fun i => if 0 < A + B * (bd b).X i then (bd b).cap i * (A + B * (bd b).X i) else 0) (bd b).N := rfl
  rw [← e] at h3
  have h4 : (b.w : Rat) * (A + B * b.a.val) ≤ ac (yT b.l A B) b.l.length := h3
  grind
theorem ti {b : BR} (hb : b.Ok) {z t : Rat} (h : (bd b).Bal z t) : fX b := ⟨rQ hb h _ _,fun _ _ => rQ hb h _ _⟩
def dh (x : Int) : SR := ⟨x,RR.zero,⟨[0],[ofQ ((2 : Int) : Rat)]⟩⟩
def iV (x : Int) : SR := ⟨x,RR.zero,⟨[0,10],[ofQ ((5 : Int) : Rat),ofQ ((0 : Int) : Rat)]⟩⟩
def b1 : BR := ⟨40,ofQ ((25 : Int) : Rat),[dh 0,dh 100]⟩
def b2 : BR := ⟨80,ofQ ((75 : Int) : Rat),[iV 0,iV 100]⟩
theorem n9 {z : Int} (h : i64 z) : (ofQ (z : Rat)).sz 12 := ⟨Nat.le_trans (vI h).sz.1 (by decide),Nat.le_trans (vI h).sz.2 (by decide)⟩
theorem sX : RR.zero.sz 12 := ⟨Nat.zero_le _,Nat.zero_le _⟩
theorem y6 {x : Int} (hx : i64 x) : (dh x).Lim := by
 refine ⟨hx,sX,⟨fun z hz => ?_,fun m hm => ?_,show 1 ≤ 1000000000 by decide,show 1 ≤ 1000000000 by decide⟩⟩
 ·simp [dh] at hz;subst hz;exact ⟨by decide,by decide⟩
 ·simp only [dh,List.mem_singleton] at hm;subst hm;exact n9 ⟨by decide,by decide⟩
theorem yK {x : Int} (hx : i64 x) : (iV x).Lim := by
 refine ⟨hx,sX,⟨fun z hz => ?_,fun m hm => ?_,show 2 ≤ 1000000000 by decide,show 2 ≤ 1000000000 by decide⟩⟩
 ·simp [iV] at hz;rcases hz with rfl | rfl <;> exact ⟨by decide,by decide⟩
 ·simp only [iV,List.mem_cons,List.not_mem_nil,or_false] at hm
  rcases hm with rfl | rfl <;> exact n9 ⟨by decide,by decide⟩
theorem nz (x : Int) : bV (dh x).k = 0 := by
 have h : dI (dh x).k 0 = 0 := by
  rw [dI,if_neg,if_neg (by omega)]
  simp only [dh,List.getD_cons_zero,ofQ_val]
  decide
 rw [bV,if_neg (show ¬ 40 < (dh x).k.S.length by simp [dh]),if_neg (show ¬ (dh x).k.M.length ≠ (dh x).k.S.length by simp [dh])]
 show da (dh x).k 0 1 = 0
 rw [da,if_pos h,da]
theorem m_ (x : Int) : bV (iV x).k = 0 := by
 have h : dI (iV x).k 0 = 0 := by
  rw [dI,if_neg,if_neg (by omega)]
  simp only [iV,List.getD_cons_zero,ofQ_val]
  decide
 have h1 : dI (iV x).k 1 = 0 := by
  rw [dI,if_neg,if_neg]
  ·simp [iV]
  ·simp only [iV,List.getD_cons_zero,List.getD_cons_succ,ofQ_val]
   decide
 rw [bV,if_neg (show ¬ 40 < (iV x).k.S.length by simp [iV]),if_neg (show ¬ (iV x).k.M.length ≠ (iV x).k.S.length by simp [iV])]
 show da (iV x).k 0 2 = 0
 rw [da,if_pos h,da,if_pos h1,da]
theorem gX {s : SR} (hx : -1000000 ≤ s.x ∧ s.x ≤ 1000000) (hc : s.c = RR.zero) (hk : bV s.k = 0) : kt s = 0 := by
 rw [kt,if_neg,hk]
 rw [hc,RR.zero_val]
 rintro (h | h)
 ·omega
 ·revert h;decide
theorem uV : aU b1 = 0 := by
 rw [aU,if_neg]
 ·rw [bQ,if_neg (by decide)]
  show cm kt [dh 0,dh 100] = 0
  rw [cm,if_pos (gX ⟨by decide,by decide⟩ rfl (nz _)),cm,if_pos (gX ⟨by decide,by decide⟩ rfl (nz _)),cm]
 ·simp only [b1,ofQ_val]
  decide
theorem uZ : aU b2 = 0 := by
 rw [aU,if_neg]
 ·rw [bQ,if_neg (by decide)]
  show cm kt [iV 0,iV 100] = 0
  rw [cm,if_pos (gX ⟨by decide,by decide⟩ rfl (m_ _)),cm,if_pos (gX ⟨by decide,by decide⟩ rfl (m_ _)),cm]
 ·simp only [b2,ofQ_val]
  decide
theorem kX : b1.Ok := by
 refine ⟨⟨⟨by decide,by decide⟩,n9 ⟨by decide,by decide⟩,fun s hs => ?_,by decide⟩,uV,by decide,fun s hs => ?_⟩
 ·simp only [b1,List.mem_cons,List.not_mem_nil,or_false] at hs
  rcases hs with rfl | rfl <;> exact y6 ⟨by decide,by decide⟩
 ·simp only [b1,List.mem_cons,List.not_mem_nil,or_false] at hs
  rcases hs with rfl | rfl <;> decide
theorem zK : b2.Ok := by
 refine ⟨⟨⟨by decide,by decide⟩,n9 ⟨by decide,by decide⟩,fun s hs => ?_,by decide⟩,uZ,by decide,fun s hs => ?_⟩
 ·simp only [b2,List.mem_cons,List.not_mem_nil,or_false] at hs
  rcases hs with rfl | rfl <;> exact yK ⟨by decide,by decide⟩
 ·simp only [b2,List.mem_cons,List.not_mem_nil,or_false] at hs
  rcases hs with rfl | rfl <;> decide
theorem po (z : Int) (h : i64 z) : hq (z : Rat) 4 := (@HQ.int z (a8 h.1 h.2)).ok
theorem qo (x : Int) (z t : Rat) : fQ (dh x) z t = if z + t * (x : Rat) < 0 then 0 else 2 * (z + t * (x : Rat)) := by
 rw [fQ,cz]
 show ac (cB (dh x).k.s (dh x).k.m (yQ (dh x) z t)) 1 = _
 rw [ac,ac,cB,yQ,aQ]
 show 0 + (if RR.zero.val + (z + t * (x : Rat)) - ((0 : Int) : Rat) < 0 then 0 else ((ofQ ((2 : Int) : Rat)).val - 0) * (RR.zero.val + (z + t * (x : Rat)) - ((0 : Int) : Rat))) = _
 rw [RR.zero_val,ofQ_val,show ((0 : Int) : Rat) = 0 from rfl,show ((2 : Int) : Rat) = 2 from rfl]
 grind
theorem Ai {z t : Rat} : (bd b1).Bal z t ↔ z = 15 ∧ t = -1 / 10 := by
 have e : (bd b1).Bal z t ↔ ((0 + fQ (dh 0) z t) + fQ (dh 100) z t = ((40 : Int) : Rat) ∧ (0 + fQ (dh 0) z t * ((0 : Int) : Rat)) + fQ (dh 100) z t * ((100 : Int) : Rat) = ((40 : Int) : Rat) * (ofQ ((25 : Int) : Rat)).val) := Iff.rfl
 rw [e,qo,qo,ofQ_val,show ((0 : Int) : Rat) = 0 from rfl,show ((100 : Int) : Rat) = 100 from rfl,show ((40 : Int) : Rat) = 40 from rfl,show ((25 : Int) : Rat) = 25 from rfl]
 constructor
 ·rintro ⟨h1,h2⟩
  grind
 ·rintro ⟨rfl,rfl⟩
  constructor <;> grind
theorem s_ : FL b1.l 15 (-1 / 10) = [ofQ 30,ofQ 10] := by
 show [ofQ (fQ (dh 0) 15 (-1 / 10)),ofQ (fQ (dh 100) 15 (-1 / 10))] = _
 rw [qo,qo,show ((0 : Int) : Rat) = 0 from rfl,show ((100 : Int) : Rat) = 100 from rfl]
 congr 2
 ·grind
 ·congr 2
  grind
theorem th : bk b2.l = [0,100] := by
 rw [bk]
 have : ca (b2.l.map (·.x)) = [0,100] := List.mergeSort_of_pairwise (by decide)
 rw [this]
 decide
theorem wE (x : Int) : k_ (iV x).k.S.length (iV x).k.s (iV x).k.m = 50 := by
 show gi (iV x).k.s (iV x).k.m 2 * (-1) = 50
 rw [gi,ac,ac,ac,aQ,aQ]
 show (0 + ((ofQ ((5 : Int) : Rat)).val - 0) * ((0 : Int) : Rat) + ((ofQ ((0 : Int) : Rat)).val - (ofQ ((5 : Int) : Rat)).val) * ((10 : Int) : Rat)) * (-1) = 50
 rw [ofQ_val,ofQ_val]
 decide +kernel
theorem wF (x : Int) : aQ (iV x).k.m (iV x).k.S.length = 0 := by
 show (ofQ ((0 : Int) : Rat)).val = 0
 rw [ofQ_val];rfl
theorem Al {A B : Rat} : dT b2.l A B b2.l.length := by
 intro i hi _
 rcases i with _ | _ | i
 ·exact wF 0
 ·exact wF 100
 ·have : i + 1 + 1 < 2 := hi
  omega
theorem u4 (A B : Rat) : ac (yT b2.l A B) b2.l.length = 0 + (if 0 < A + B * 0 then 50 * (A + B * 0) else 0) + (if 0 < A + B * 100 then 50 * (A + B * 100) else 0) := by
 show ac (yT b2.l A B) 2 = _
 rw [ac,ac,ac,yT,yT]
 have e0 : xI b2.l 0 = 0 := rfl
 have e1 : xI b2.l 1 = 100 := rfl
 have c0 : cI b2.l 0 = 50 := wE 0
 have c1 : cI b2.l 1 = 50 := wE 100
 rw [e0,e1,c0,c1]
theorem Bg : cx b2 (iW 0) = true := by
 refine ec.2 ⟨Al,?_⟩
 rw [u4]
 simp only [iW,ofQ_val]
 show (0 : Rat) + (if 0 < (((-0 : Int)) : Rat) + ((1 : Int) : Rat) * 0 then 50 * ((((-0 : Int)) : Rat) + ((1 : Int) : Rat) * 0) else 0) + (if 0 < (((-0 : Int)) : Rat) + ((1 : Int) : Rat) * 100 then 50 * ((((-0 : Int)) : Rat) + ((1 : Int) : Rat) * 100) else 0) < ((80 : Int) : Rat) * ((((-0 : Int)) : Rat) + ((1 : Int) : Rat) * (ofQ ((75 : Int) : Rat)).val)
 rw [ofQ_val]
 decide +kernel
theorem qG : dB b2 = .tup [.agg (eA (iW 0)),I 13] := by
 have h1 : cx b2 bK = false := by
  cases h : cx b2 bK with
  |false => rfl
  |true =>
   obtain ⟨_,h2⟩ := ec.1 h
   rw [u4,show bK.z.val = 1 from gO,show bK.t.val = 0 from zero_val] at h2
   have h3 : ((80 : Int) : Rat) * (1 + 0 * (ofQ ((75 : Int) : Rat)).val) = 80 := by rw [ofQ_val];decide +kernel
   have h2 : (0 : Rat) + (if 0 < (1 : Rat) + 0 * 0 then 50 * (1 + 0 * 0) else 0) + (if 0 < (1 : Rat) + 0 * 100 then 50 * (1 + 0 * 100) else 0) < ((80 : Int) : Rat) * (1 + 0 * (ofQ ((75 : Int) : Rat)).val) := h2
   rw [h3] at h2
   grind
 have h2 := Bg
 rw [dB,if_neg (by rw [h1];decide),bD,th]
 show (match (iW 0 :: _).find? (cx b2) with | some r => PV.tup [.agg (eA r),I 13] | none => .tup [.agg (zN ++ zN),I 0]) = _
 rw [List.find?_cons,h2]
def uN (s : SR) : Prop := i64 s.x ∧ ∀ z ∈ s.k.S,i64 z
def oQ (l : List SR) : Prop := ∀ s ∈ l,uN s
def rx (st : Nat) (s : SR) : Prop := s.k.S.length ≤ st ∧ s.k.M.length ≤ st + 1 ∧ s.c.sz 3 ∧ ∀ m ∈ s.k.M,m.sz 3
def jD (l : List SR) (most st : Nat) : Prop := l.length ≤ most ∧ ∀ s ∈ l,rx st s
theorem RR.sz.mono {x : RR} {n m : Nat} (h : x.sz n) (hm : n ≤ m) : x.sz m := ⟨Nat.le_trans h.1 hm,Nat.le_trans h.2 hm⟩
theorem l5 {l : List SR} {most st : Nat} (hd : oQ l) (h : jD l most st) (hm : most ≤ 1000) (hst : st ≤ 1000) : fW l := by
 refine ⟨fun s hs => ?_,by have := h.1;omega⟩
 obtain ⟨h1,h2,h3,h4⟩ := h.2 s hs
 exact ⟨(hd s hs).1,h3.mono (by decide),⟨(hd s hs).2,fun m hm => (h4 m hm).mono (by decide),by omega,by omega⟩⟩
theorem uh {l : List SR} {most st : Nat} (h : jD l most st) (hm : most ≤ 12) (hst : st ≤ 8) : mu l :=
 ⟨Nat.le_trans h.1 hm,fun s hs => Nat.le_trans (h.2 s hs).1 hst⟩
theorem xi {b : BR} {most st : Nat} (hw : i64 b.w) (hd : oQ b.l) (ha : b.a.sz 3) (h : jD b.l most st) (hm : most ≤ 12) (hst : st ≤ 8) (hc : aU b = 0) : b.Ok :=
 ⟨⟨hw,ha.mono (by decide),l5 hd h (by omega) (by omega)⟩,hc,uh h hm hst⟩
theorem im {x : RR} (h : x.sz 3) : hq x.val 4 := SZ.hq (n := 3) ⟨h⟩
theorem xj {b : BR} {most st : Nat} (hw : i64 b.w) (hd : oQ b.l) (ha : b.a.sz 3) (h : jD b.l most st) (hm : most ≤ 10) (hst : st ≤ 5) (hc : aU b = 0) : (bd b).Sz := by
 refine ⟨Nat.le_trans h.1 hm,fun i hi => ?_,fun i hi => ?_,fun i hi => ?_,fun i hi k hk => ?_,fun i hi k hk => ?_,po _ hw,im ha⟩
 ·exact Nat.le_trans (h.2 _ (aF hi)).1 hst
 ·exact po _ (hd _ (aF hi)).1
 ·exact et (im (h.2 _ (aF hi)).2.2.1) (by decide)
 ·exact po _ ((hd _ (aF hi)).2 _ (List.mem_of_getElem? (bi (d := (0 : Int)) hk)))
 ·have hcu := bR (k9 hc).2.2 _ (aF (l := b.l) hi)
  obtain ⟨-,hSM,-,-⟩ := cH hcu
  have hk : k < (b.l.getD i dS).k.S.length := hk
  exact im ((h.2 _ (aF hi)).2.2.2 _ (List.mem_of_getElem? (bi (d := RR.zero) (by omega))))
def zA : AR := ⟨RR.zero,RR.zero⟩
def yr (a : AR) (F : List RR) : List PV := eA a ++ [.sl (F.map eR)]
def zS : List PV := zN ++ zN ++ [.nil]
theorem WeakL.append {a b c d : List PV} (h1 : WeakL a b) (h2 : WeakL c d) : WeakL (a ++ c) (b ++ d) := by
 induction h1 with
 |nil => exact h2
 |cons h _ ih => exact .cons h ih
theorem kP : WeakL (zN ++ zN) (eA zA) := eJ.append eJ
theorem kQ : WeakL zS (yr zA []) := kP.append (.cons .nil .nil)
structure SQ where
 a : AR
 F : List RR
 r : AR
 e : Int
def SQ.pv (q : SQ) : PV := .tup [.agg (yr q.a q.F),.agg (eA q.r),I q.e]
noncomputable def dy (b : BR) : Rat × Rat := ((bd b).eqQ 150000).getD (0,0)
noncomputable def cS (b : BR) : SQ :=
 if aU b = 0 then
  if cx b bK = true then ⟨zA,[],bK,12⟩
  else match (bD b.l).find? (cx b) with
   |some r => ⟨zA,[],r,13⟩
   |none => if cC b (dy b).1 (dy b).2 = true then ⟨zA,[],zA,14⟩ else ⟨⟨ofQ (dy b).1,ofQ (dy b).2⟩,FL b.l (dy b).1 (dy b).2,zA,0⟩
 else ⟨zA,[],zA,aU b⟩
noncomputable def cD (b : BR) : List RR × Int :=
 if aU b = 0 then
  if cx b bK = true then ([],12)
  else match (bD b.l).find? (cx b) with
   |some _ => ([],13)
   |none => (FL b.l (dy b).1 (dy b).2,0)
 else ([],aU b)
def BR.Good (b : BR) : Prop := b.Lim ∧ (aU b = 0 → b.Ok ∧ (bd b).Sz ∧ ∀ t,(km b.l t).length ≤ 40)
theorem f8 {b : BR} (hb : b.Ok) (hs : (bd b).Sz) (h : fX b) : (bd b).eqQ 150000 = some (dy b) ∧ (bd b).Bal (dy b).1 (dy b).2 ∧ HQ (dy b).1 24000 ∧ HQ (dy b).2 20000 := by
 obtain ⟨x,h1,h2,h3⟩ := Bn hb hs h
 have e : dy b = x := by rw [dy,h1];rfl
 rw [e]
 exact ⟨h1,h2,h3⟩
theorem gK {b : BR} (h1 : ¬ cx b bK = true) (h2 : (bD b.l).find? (cx b) = none) : fX b := by
 refine ⟨by simpa using h1,fun r hr => ?_⟩
 have := List.find?_eq_none.1 h2 r hr
 simpa using this
set_option maxRecDepth 20000 in
theorem uu (b : BR) (hb : b.Lim) (he : aU b ≠ 0) : Ret Tryz.prog .shared 41 [.agg (eB b)] (.tup [.agg zS,.agg (zN ++ zN),I (aU b)]) := by
 have h1 := bt b hb
 generalize aU b = e at *
 refine Ret.of_pwp layOk mixed Go.Proofs.Tryz.func41 rfl (by decide) rfl rfl ?_
 repeat refine aa rfl ?_
 refine aY rfl rfl rfl h1 rfl rfl rfl ?_
 repeat refine aa rfl ?_
 refine ab rfl ?_ ?_<;>intro h
 ·clear h
  repeat refine aa rfl ?_
  exact aK rfl rfl rfl
 ·exfalso
  simp at h
  exact he h
set_option maxRecDepth 20000 in
theorem iT (b : BR) (hb : b.Lim) (h0 : aU b = 0) (r : AR) (e : Int) (he : e ≠ 0) (h93 : Ret Tryz.prog .shared 93 [.agg (eB b)] (.tup [.agg (eA r),I e])) : Ret Tryz.prog .shared 41 [.agg (eB b)] (.tup [.agg zS,.agg (eA r),I e]) := by
 have h1 := bt b hb
 rw [h0] at h1
 clear h0 hb
 refine Ret.of_pwp layOk mixed Go.Proofs.Tryz.func41 rfl (by decide) rfl rfl ?_
 repeat refine aa rfl ?_
 refine aY rfl rfl rfl h1 rfl rfl rfl ?_
 repeat refine aa rfl ?_
 refine ap rfl rfl rfl h93 rfl rfl ?_
 repeat refine aa rfl ?_
 refine ab rfl ?_ ?_<;>intro h
 ·clear h
  repeat refine aa rfl ?_
  refine bM [2,3] [3,4] (by decide +kernel) ?_
  repeat refine aa rfl ?_
  repeat refine aa rfl ?_
  exact aK rfl rfl rfl
 ·exfalso
  simp at h
  exact he h
set_option maxRecDepth 20000 in
theorem qn (b : BR) (hb : b.Lim) (h0 : aU b = 0) (h93 : Ret Tryz.prog .shared 93 [.agg (eB b)] (.tup [.agg (zN ++ zN),I 0])) (a : AR) (h120 : Ret Tryz.prog .shared 120 [.agg (eB b)] (.agg (eA a)))
  (h121 : Ret Tryz.prog .shared 121 [.agg (eB b),.agg (eA a)] (.bool true)) : Ret Tryz.prog .shared 41 [.agg (eB b)] (.tup [.agg zS,.agg (zN ++ zN),I 14]) := by
 have h1 := bt b hb
 rw [h0] at h1
 clear h0 hb
 refine Ret.of_pwp layOk mixed Go.Proofs.Tryz.func41 rfl (by decide) rfl rfl ?_
 repeat refine aa rfl ?_
 refine aY rfl rfl rfl h1 rfl rfl rfl ?_
 repeat refine aa rfl ?_
 refine ap rfl rfl rfl h93 rfl rfl ?_
 repeat refine aa rfl ?_
 refine ap rfl rfl rfl h120 rfl rfl ?_
 repeat refine aa rfl ?_
 refine aY rfl rfl rfl h121 rfl rfl rfl ?_
 repeat refine aa rfl ?_
 exact aK rfl rfl rfl
set_option maxRecDepth 20000 in
theorem nw (b : BR) (hb : b.Lim) (h0 : aU b = 0) (h93 : Ret Tryz.prog .shared 93 [.agg (eB b)] (.tup [.agg (zN ++ zN),I 0])) (a : AR) (F : List RR) (h120 : Ret Tryz.prog .shared 120 [.agg (eB b)] (.agg (eA a)))
  (h121 : Ret Tryz.prog .shared 121 [.agg (eB b),.agg (eA a)] (.bool false)) (h23 : Ret Tryz.prog .shared 23 [.sl (b.l.map eS),.agg (eA a)] (.tup [.sl (F.map eR),I 0])) : Ret Tryz.prog .shared 41 [.agg (eB b)] (.tup [.agg (yr a F),.agg (zN ++ zN),I 0]) := by
 have h1 := bt b hb
 rw [h0] at h1
 clear h0 hb
 refine Ret.of_pwp layOk mixed Go.Proofs.Tryz.func41 rfl (by decide) rfl rfl ?_
 repeat refine aa rfl ?_
 refine aY rfl rfl rfl h1 rfl rfl rfl ?_
 repeat refine aa rfl ?_
 refine ap rfl rfl rfl h93 rfl rfl ?_
 repeat refine aa rfl ?_
 refine ap rfl rfl rfl h120 rfl rfl ?_
 repeat refine aa rfl ?_
 refine aY rfl rfl rfl h121 rfl rfl rfl ?_
 repeat refine aa rfl ?_
 refine ap rfl rfl rfl h23 rfl rfl ?_
 repeat refine aa rfl ?_
 exact aK rfl rfl rfl
set_option maxRecDepth 20000 in
theorem tZ (b : BR) (hb : b.Lim) (he : aU b ≠ 0) : Ret Tryz.prog .shared 44 [.agg (eB b)] (.tup [.nil,I (aU b)]) := by
 have h1 := bt b hb
 generalize aU b = e at *
 refine Ret.of_pwp layOk mixed Go.Proofs.Tryz.func44 rfl (by decide) rfl rfl ?_
 repeat refine aa rfl ?_
 refine aY rfl rfl rfl h1 rfl rfl rfl ?_
 repeat refine aa rfl ?_
 refine ab rfl ?_ ?_<;>intro h
 ·clear h
  repeat refine aa rfl ?_
  exact aK rfl rfl rfl
 ·exfalso
  simp at h
  exact he h
set_option maxRecDepth 20000 in
theorem lT (b : BR) (hb : b.Lim) (h0 : aU b = 0) (r : AR) (e : Int) (he : e ≠ 0) (h93 : Ret Tryz.prog .shared 93 [.agg (eB b)] (.tup [.agg (eA r),I e])) : Ret Tryz.prog .shared 44 [.agg (eB b)] (.tup [.nil,I e]) := by
 have h1 := bt b hb
 rw [h0] at h1
 clear h0 hb
 refine Ret.of_pwp layOk mixed Go.Proofs.Tryz.func44 rfl (by decide) rfl rfl ?_
 repeat refine aa rfl ?_
 refine aY rfl rfl rfl h1 rfl rfl rfl ?_
 repeat refine aa rfl ?_
 refine ap rfl rfl rfl h93 rfl rfl ?_
 repeat refine aa rfl ?_
 refine ab rfl ?_ ?_<;>intro h
 ·clear h
  repeat refine aa rfl ?_
  exact aK rfl rfl rfl
 ·exfalso
  simp at h
  exact he h
set_option maxRecDepth 20000 in
theorem tY (b : BR) (hb : b.Lim) (h0 : aU b = 0) (h93 : Ret Tryz.prog .shared 93 [.agg (eB b)] (.tup [.agg (zN ++ zN),I 0])) (a : AR) (F : List RR) (h120 : Ret Tryz.prog .shared 120 [.agg (eB b)] (.agg (eA a)))
  (h23 : Ret Tryz.prog .shared 23 [.sl (b.l.map eS),.agg (eA a)] (.tup [.sl (F.map eR),I 0])) : Ret Tryz.prog .shared 44 [.agg (eB b)] (.tup [.sl (F.map eR),I 0]) := by
 have h1 := bt b hb
 rw [h0] at h1
 clear h0 hb
 refine Ret.of_pwp layOk mixed Go.Proofs.Tryz.func44 rfl (by decide) rfl rfl ?_
 repeat refine aa rfl ?_
 refine aY rfl rfl rfl h1 rfl rfl rfl ?_
 repeat refine aa rfl ?_
 refine ap rfl rfl rfl h93 rfl rfl ?_
 repeat refine aa rfl ?_
 refine ah 9 [20,21,22,23,24,25,26,2,3] (by decide +kernel) ?_
 repeat refine aa rfl ?_
 refine ap rfl rfl rfl h120 rfl rfl ?_
 repeat refine aa rfl ?_
 refine ap rfl rfl rfl h23 rfl rfl ?_
 repeat refine aa rfl ?_
 exact aK rfl rfl rfl
theorem vJ {b : BR} (hb : b.Ok) (hs : (bd b).Sz) (h40 : ∀ t,(km b.l t).length ≤ 40) (h : fX b) : Ret Tryz.prog .shared 120 [.agg (eB b)] (.agg (eA ⟨ofQ (dy b).1,ofQ (dy b).2⟩)) :=
 mN b hb h40 (fun t => Bd.enough (ej hb) t (iJ h)) (by decide) (f8 hb hs h).1
theorem ny (b : BR) (hg : b.Good) : Ret Tryz.prog .shared 41 [.agg (eB b)] (cS b).pv := by
 rw [cS]
 by_cases h0 : aU b = 0
 ·rw [if_pos h0]
  obtain ⟨hb,hs,h40⟩ := hg.2 h0
  have h93 := eG b hb
  rw [dB] at h93
  by_cases h1 : cx b bK = true
  ·rw [if_pos h1] at h93 ⊢
   exact (iT b hg.1 h0 bK 12 (by decide) h93).weak (WeakL.refl _) (WeakL.tup (.cons kQ.agg (WeakL.refl _)))
  ·rw [if_neg h1] at h93 ⊢
   cases h2 : (bD b.l).find? (cx b) with
   |some r =>
    rw [h2] at h93
    exact (iT b hg.1 h0 r 13 (by decide) h93).weak (WeakL.refl _) (WeakL.tup (.cons kQ.agg (WeakL.refl _)))
   |none =>
    rw [h2] at h93
    have hn := gK h1 h2
    have h120 := vJ hb hs h40 hn
    obtain ⟨_,hbal,hz,ht⟩ := f8 hb hs hn
    have va : Va ⟨ofQ (dy b).1,ofQ (dy b).2⟩ (dy b).1 (dy b).2 24000 20000 := ⟨Vq.ofQ (h := hz),Vq.ofQ (h := ht)⟩
    have h121 := mU b hb ⟨ofQ (dy b).1,ofQ (dy b).2⟩ (ha := va) (by decide)
    dsimp only
    cases hl : cC b (dy b).1 (dy b).2 with
    |true =>
     rw [hl] at h121
     exact (qn b hg.1 h0 h93 _ h120 h121).weak (WeakL.refl _) (WeakL.tup (.cons kQ.agg (.cons kP.agg (WeakL.refl _))))
    |false =>
     rw [hl] at h121
     have h23 := fx b.l hb.lim.l hb.chkL ⟨ofQ (dy b).1,ofQ (dy b).2⟩ (ha := va) (by decide)
     exact (nw b hg.1 h0 h93 _ _ h120 h121 h23).weak (WeakL.refl _) (WeakL.tup (.cons (.rfl _) (.cons kP.agg (WeakL.refl _))))
 ·rw [if_neg h0]
  exact (uu b hg.1 h0).weak (WeakL.refl _) (WeakL.tup (.cons kQ.agg (.cons kP.agg (WeakL.refl _))))
theorem nj (b : BR) (hg : b.Good) : Ret Tryz.prog .shared 44 [.agg (eB b)] (.tup [.sl ((cD b).1.map eR),I (cD b).2]) := by
 rw [cD]
 by_cases h0 : aU b = 0
 ·rw [if_pos h0]
  obtain ⟨hb,hs,h40⟩ := hg.2 h0
  have h93 := eG b hb
  rw [dB] at h93
  by_cases h1 : cx b bK = true
  ·rw [if_pos h1] at h93 ⊢
   exact (lT b hg.1 h0 bK 12 (by decide) h93).weak (WeakL.refl _) (WeakL.tup (.cons .nil (WeakL.refl _)))
  ·rw [if_neg h1] at h93 ⊢
   cases h2 : (bD b.l).find? (cx b) with
   |some r =>
    rw [h2] at h93
    exact (lT b hg.1 h0 r 13 (by decide) h93).weak (WeakL.refl _) (WeakL.tup (.cons .nil (WeakL.refl _)))
   |none =>
    rw [h2] at h93
    have hn := gK h1 h2
    have h120 := vJ hb hs h40 hn
    obtain ⟨_,hbal,hz,ht⟩ := f8 hb hs hn
    have va : Va ⟨ofQ (dy b).1,ofQ (dy b).2⟩ (dy b).1 (dy b).2 24000 20000 := ⟨Vq.ofQ (h := hz),Vq.ofQ (h := ht)⟩
    have h23 := fx b.l hb.lim.l hb.chkL ⟨ofQ (dy b).1,ofQ (dy b).2⟩ (ha := va) (by decide)
    exact tY b hg.1 h0 h93 _ _ h120 h23
 ·rw [if_neg h0]
  exact (tZ b hg.1 h0).weak (WeakL.refl _) (WeakL.tup (.cons .nil (WeakL.refl _)))
def cb (l : List UInt16) (i : Nat) : Nat := (l.getD i 0).toNat
theorem cO (l : List UInt16) (i : Nat) : cb l i < 65536 := aO _
theorem vm {l : List UInt16} {i : Nat} (h : l.length ≤ i) : cb l i = 0 := by
 rw [cb,List.getD_eq_getElem?_getD,List.getElem?_eq_none h];rfl
theorem mZ (l : List UInt16) (i : Nat) : nv (l.take (i + 1)) = nv (l.take i) + 65536 ^ i * cb l i := by
 rcases Nat.lt_or_ge i l.length with h | h
 ·exact cn (bJ h)
 ·rw [vm h,List.take_of_length_le h,List.take_of_length_le (by omega)];omega
structure RPlus (A B : List UInt16) (q : Nat × List UInt16 × Nat) : Prop where
 l : q.2.1.length = q.1
 c : q.2.2 ≤ 1
 k : q.1 ≤ A.length + B.length + 1
 v : nv q.2.1 + 65536 ^ q.1 * q.2.2 = nv (A.take q.1) + nv (B.take q.1)
theorem rl {A B : List UInt16} {k : Nat} {L : List UInt16} {c : Nat} (h : RPlus A B (k,L,c)) (hk : k < A.length ∨ k < B.length ∨ 0 < c) :
  RPlus A B (k + 1,L ++ [UInt16.ofNat (cb A k + cb B k + c)],(cb A k + cb B k + c) / 65536) ∧ k < A.length + B.length + 1 := by
 obtain ⟨h1,h2,h3,h4⟩ := h
 simp only at h1 h2 h3 h4
 have hx := cO A k
 have hy := cO B k
 have hkk : k < A.length + B.length + 1 := by
  rcases Nat.lt_or_ge k (A.length + B.length + 1) with g | g
  ·exact g
  ·exfalso
   have hc : 0 < c := by omega
   have e1 := bC A
   have e2 := bC B
   rw [List.take_of_length_le (l := A) (by omega),List.take_of_length_le (l := B) (by omega)] at h4
   have p1 : 65536 ^ A.length * 65536 ≤ 65536 ^ k := by rw [← Nat.pow_succ];exact Nat.pow_le_pow_right (by decide) (by omega)
   have p2 : 65536 ^ B.length * 65536 ≤ 65536 ^ k := by rw [← Nat.pow_succ];exact Nat.pow_le_pow_right (by decide) (by omega)
   have p3 : 65536 ^ k * 1 ≤ 65536 ^ k * c := Nat.mul_le_mul_left _ hc
   omega
 refine ⟨⟨by simp [h1],by simp only;omega,by simp only;omega,?_⟩,hkk⟩
 simp only
 rw [kB,mZ A,mZ B,h1,aL,Nat.pow_succ]
 have e : (cb A k + cb B k + c) % 65536 + 65536 * ((cb A k + cb B k + c) / 65536) = cb A k + cb B k + c := Nat.mod_add_div _ _
 generalize (cb A k + cb B k + c) % 65536 = m at *
 generalize (cb A k + cb B k + c) / 65536 = d at *
 generalize 65536 ^ k = W at *
 have : W * (m + 65536 * d) = W * (cb A k + cb B k + c) := by rw [e]
 simp only [Nat.mul_add] at this
 rw [Nat.mul_assoc]
 omega
theorem ub {A B : List UInt16} {k : Nat} {L : List UInt16} {c : Nat} (h : RPlus A B (k,L,c)) (hk : ¬ (k < A.length ∨ k < B.length ∨ 0 < c)) : nv L = nv A + nv B := by
 obtain ⟨h1,h2,h3,h4⟩ := h
 simp only at h1 h2 h3 h4
 rw [List.take_of_length_le (l := A) (by omega),List.take_of_length_le (l := B) (by omega),show c = 0 by omega] at h4
 omega
structure RMin (A B : List UInt16) (q : Nat × List UInt16 × Nat) : Prop where
 l : q.2.1.length = q.1
 c : q.2.2 ≤ 1
 k : q.1 ≤ A.length
 v : nv q.2.1 + nv (B.take q.1) = nv (A.take q.1) + 65536 ^ q.1 * q.2.2
def uJ (x y c : Nat) : Nat := if x < y + c then x + 65536 - y - c else x - y - c
def yY (x y c : Nat) : Nat := if x < y + c then 1 else 0
theorem zY {x y c : Nat} (hx : x < 65536) (hy : y < 65536) (hc : c ≤ 1) : uJ x y c + y + c = x + 65536 * yY x y c ∧ uJ x y c < 65536 ∧ yY x y c ≤ 1 := by
 unfold uJ yY;split <;> omega
theorem t7 {A B : List UInt16} {k : Nat} {L : List UInt16} {c : Nat} (h : RMin A B (k,L,c)) (hk : k < A.length) :
  RMin A B (k + 1,L ++ [UInt16.ofNat (uJ (cb A k) (cb B k) c)],yY (cb A k) (cb B k) c) := by
 obtain ⟨h1,h2,h3,h4⟩ := h
 simp only at h1 h2 h3 h4
 obtain ⟨e,e2,e3⟩ := zY (cO A k) (cO B k) h2
 refine ⟨by simp [h1],e3,hk,?_⟩
 simp only
 rw [kB,mZ A,mZ B,h1,aL,Nat.mod_eq_of_lt e2,Nat.pow_succ]
 generalize uJ (cb A k) (cb B k) c = m at *
 generalize yY (cb A k) (cb B k) c = d at *
 generalize 65536 ^ k = W at *
 have : W * (m + cb B k + c) = W * (cb A k + 65536 * d) := by rw [e]
 simp only [Nat.mul_add] at this
 rw [Nat.mul_assoc]
 omega
theorem wW {A B L : List UInt16} {c : Nat} (h : RMin A B (A.length,L,c)) (hle : nv B ≤ nv A) : nv L = nv A - nv B := by
 obtain ⟨h1,h2,h3,h4⟩ := h
 simp only at h1 h2 h3 h4
 rw [List.take_length] at h4
 have e1 := bC L
 rw [h1] at e1
 have e2 := qZ B A.length
 have e3 : nv (B.take A.length) = nv B ∧ c = 0 := by
  have e4 : 65536 ^ A.length ≠ 0 := Nat.ne_of_gt (iN _)
  have hc : c = 0 := by
   rcases Nat.eq_zero_or_pos c with g | g
   ·exact g
   ·have : c = 1 := by omega
    subst this
    have := dp B A.length
    omega
  refine ⟨?_,hc⟩
  subst hc
  rcases Nat.lt_or_ge A.length B.length with g | g
  ·have e5 := b0 B A.length (by omega)
   have e6 := bC A
   rcases Nat.eq_zero_or_pos (nv (B.drop A.length)) with g2 | g2
   ·rw [g2] at e5;omega
   ·have : 65536 ^ A.length * 1 ≤ 65536 ^ A.length * nv (B.drop A.length) := Nat.mul_le_mul_left _ g2
    omega
  ·rw [List.take_of_length_le g]
 rw [e3.1,e3.2] at h4
 omega
structure RTimO (A B : List UInt16) (q : Nat × List UInt16) : Prop where
 i : q.1 ≤ A.length
 l : q.2.length = A.length + B.length + 1
 v : nv q.2 = nv (A.take q.1) * nv B
structure RTimI (A B : List UInt16) (i : Nat) (q : Nat × List UInt16 × Nat) : Prop where
 k : q.1 ≤ B.length + 1
 l : q.2.1.length = A.length + B.length + 1
 c : q.2.2 < 65536
 v : nv q.2.1 + 65536 ^ (i + q.1) * q.2.2 = nv (A.take i) * nv B + 65536 ^ i * (cb A i * nv (B.take q.1))
theorem rm {A B : List UInt16} {i : Nat} {R : List UInt16} (h : RTimO A B (i,R)) : RTimI A B i (0,R,0) := ⟨Nat.zero_le _,h.l,Nat.zero_lt_succ _,by
 have := h.v
 simp only at this ⊢
 rw [List.take_zero,nv];omega⟩
theorem AJ {A B : List UInt16} {i k : Nat} {R : List UInt16} {c : Nat} (h : RTimI A B i (k,R,c)) (hk : k < B.length ∨ 0 < c) : k ≤ B.length := by
 rcases hk with hk | hk
 ·omega
 ·obtain ⟨h1,h2,h3,h4⟩ := h
  simp only at h1 h2 h3 h4
  rcases Nat.lt_or_ge B.length k with g | g
  ·exfalso
   rw [List.take_of_length_le (l := B) (by omega)] at h4
   have e1 := dp A i
   have e2 := cO A i
   have e3 := bC B
   have e4 : nv (A.take i) * nv B + 65536 ^ i * (cb A i * nv B) = (nv (A.take i) + 65536 ^ i * cb A i) * nv B := by rw [Nat.add_mul,Nat.mul_assoc]
   have e5 : nv (A.take i) + 65536 ^ i * cb A i < 65536 ^ (i + 1) := by
    have : 65536 ^ i * cb A i ≤ 65536 ^ i * 65535 := Nat.mul_le_mul_left _ (by omega)
    rw [Nat.pow_succ];omega
   have e6 : (nv (A.take i) + 65536 ^ i * cb A i) * nv B < 65536 ^ (i + 1 + B.length) := dE e5 e3
   have e7 : 65536 ^ (i + 1 + B.length) ≤ 65536 ^ (i + k) := Nat.pow_le_pow_right (by decide) (by omega)
   have e8 : 65536 ^ (i + k) * 1 ≤ 65536 ^ (i + k) * c := Nat.mul_le_mul_left _ hk
   omega
  ·exact g
theorem uf {A B : List UInt16} {i k : Nat} {R : List UInt16} {c : Nat} {r : UInt16} (h : RTimI A B i (k,R,c)) (hkB : k ≤ B.length) (hr : R[i + k]? = some r) :
  RTimI A B i (k + 1,R.set (i + k) (UInt16.ofNat (r.toNat + cb A i * cb B k + c)),(r.toNat + cb A i * cb B k + c) / 65536) := by
 obtain ⟨h1,h2,h3,h4⟩ := h
 simp only at h1 h2 h3 h4
 have hx := cO A i
 have hyl := cO B k
 have hrl := aO r
 have hm := pG hx hyl
 refine ⟨by simp only;omega,by simp [h2],by simp only;omega,?_⟩
 simp only
 have hs := wt hr (UInt16.ofNat (r.toNat + cb A i * cb B k + c))
 rw [aL] at hs
 rw [mZ B,show i + (k + 1) = (i + k) + 1 by omega,Nat.pow_succ]
 have e := Nat.mod_add_div (r.toNat + cb A i * cb B k + c) 65536
 generalize (r.toNat + cb A i * cb B k + c) % 65536 = m at *
 generalize (r.toNat + cb A i * cb B k + c) / 65536 = d at *
 have e2 : 65536 ^ i * (cb A i * (nv (B.take k) + 65536 ^ k * cb B k)) = 65536 ^ i * (cb A i * nv (B.take k)) + 65536 ^ (i + k) * (cb A i * cb B k) := by
  rw [Nat.mul_add,Nat.mul_add,Nat.pow_add]
  congr 1
  simp only [Nat.mul_assoc,Nat.mul_left_comm,Nat.mul_comm]
 rw [e2]
 generalize 65536 ^ (i + k) = W at *
 have e3 : W * (m + 65536 * d) = W * (r.toNat + cb A i * cb B k + c) := by rw [e]
 simp only [Nat.mul_add] at e3
 rw [Nat.mul_assoc]
 omega
theorem ue {A B : List UInt16} {i k : Nat} {R : List UInt16} {c : Nat} (h : RTimI A B i (k,R,c)) (hi : i < A.length) (hk : ¬ (k < B.length ∨ 0 < c)) : RTimO A B (i + 1,R) := by
 obtain ⟨h1,h2,h3,h4⟩ := h
 simp only at h1 h2 h3 h4
 rw [List.take_of_length_le (l := B) (by omega),show c = 0 by omega] at h4
 refine ⟨hi,h2,?_⟩
 simp only
 rw [mZ A,Nat.add_mul,Nat.mul_assoc]
 omega
structure ROvr (A B : List UInt16) (q : Nat × List UInt16 × Nat) : Prop where
 i : q.1 ≤ A.length
 l : q.2.1.length = A.length
 u : nv (q.2.1.drop q.1) = nv (A.drop q.1) / nv B
 r : q.2.2 = nv (A.drop q.1) % nv B
theorem ri {A B : List UInt16} : ROvr A B (A.length,List.replicate A.length 0,0) :=
 ⟨Nat.le_refl _,by simp,by simp [nv],by simp [nv]⟩
theorem ua {A B : List UInt16} {i : Nat} {Q : List UInt16} {r : Nat} {x : UInt16} (hb : 0 < nv B) (h : ROvr A B (i + 1,Q,r)) (hx : A[i]? = some x) :
  (x.toNat + 65536 * r) / nv B < 65536 ∧ ROvr A B (i,Q.set i (UInt16.ofNat ((x.toNat + 65536 * r) / nv B)),(x.toNat + 65536 * r) % nv B) := by
 obtain ⟨h1,h2,h3,h4⟩ := h
 simp only at h1 h2 h3 h4
 have hxl := aO x
 have hrb : r < nv B := by rw [h4];exact Nat.mod_lt _ hb
 have hq : (x.toNat + 65536 * r) / nv B < 65536 := by
  refine Nat.div_lt_of_lt_mul ?_
  have : 65536 * (r + 1) ≤ 65536 * nv B := Nat.mul_le_mul_left _ hrb
  rw [Nat.mul_comm (nv B)]
  omega
 refine ⟨hq,by simp only;omega,by simp [h2],?_,?_⟩
 ·simp only
  have hget : (Q.set i (UInt16.ofNat ((x.toNat + 65536 * r) / nv B)))[i]? = some (UInt16.ofNat ((x.toNat + 65536 * r) / nv B)) := List.getElem?_set_self (by omega)
  rw [dc hget,dc hx,aL,Nat.mod_eq_of_lt hq]
  have e2 : (Q.set i (UInt16.ofNat ((x.toNat + 65536 * r) / nv B))).drop (i + 1) = Q.drop (i + 1) := by
   apply List.ext_getElem?;intro j
   rw [List.getElem?_drop,List.getElem?_drop,List.getElem?_set_ne (by omega)]
  rw [e2,h3]
  generalize nv (A.drop (i + 1)) = D at *
  have e3 := Nat.mod_add_div D (nv B)
  rw [← h4] at e3
  have e4 : x.toNat + 65536 * D = (x.toNat + 65536 * r) + nv B * (65536 * (D / nv B)) := by
   have e5 : nv B * (65536 * (D / nv B)) = 65536 * (nv B * (D / nv B)) := by rw [Nat.mul_left_comm]
   rw [e5];omega
  rw [e4,Nat.add_mul_div_left _ _ hb]
 ·simp only
  rw [dc hx]
  generalize nv (A.drop (i + 1)) = D at *
  have e3 := Nat.mod_add_div D (nv B)
  rw [← h4] at e3
  have e4 : x.toNat + 65536 * D = (x.toNat + 65536 * r) + nv B * (65536 * (D / nv B)) := by
   have e5 : nv B * (65536 * (D / nv B)) = 65536 * (nv B * (D / nv B)) := by rw [Nat.mul_left_comm]
   rw [e5];omega
  rw [e4,Nat.add_mul_mod_self_left]
theorem wZ {A B Q : List UInt16} {r : Nat} (h : ROvr A B (0,Q,r)) : nv Q = nv A / nv B ∧ r = nv A % nv B := by
 have h1 := h.u
 have h2 := h.r
 simp only [List.drop_zero] at h1 h2
 exact ⟨h1,h2⟩
def eD (x : UInt16) : List PV := [I x.toNat]
theorem fb (a : List UInt16) (i : Nat) (ha : a.length ≤ 1000000000) (hi : i ≤ 4000000000) : Ret Tryz.prog .shared 178 [.sl (a.map eD),I i] (I (cb a i)) := by
 have hal : (a.map eD).length = a.length := by simp
 by_cases hlt : i < a.length
 ·have hx := bJ (l := a) (i := i) hlt
  rw [cb]
  generalize a.getD i 0 = x at *
  refine Ret.of_pwp layOk mixed Go.Proofs.Tryz.func178 rfl (by decide) rfl rfl ?_
  repeat refine aa rfl ?_
  refine ab rfl ?_ ?_<;>intro h
  ·clear h
   repeat refine aa rfl ?_
   refine bO rfl rfl rfl rfl rfl rfl rfl hx rfl ?_
   repeat refine aa rfl ?_
   exact bu rfl rfl rfl
  ·have := of_decide_eq_false h;omega
 ·rw [vm (by omega)]
  refine Ret.of_pwp layOk mixed Go.Proofs.Tryz.func178 rfl (by decide) rfl rfl ?_
  repeat refine aa rfl ?_
  refine ab rfl ?_ ?_<;>intro h
  ·have := of_decide_eq_true h;omega
  ·repeat refine aa rfl ?_
   exact bu rfl rfl rfl
theorem dP (l : List UInt16) (hl : l.length ≤ 1000000000) : Ret Tryz.prog .shared 177 [.sl (l.map eD)] (.sl ((aG l).map eD)) := by
 have hml : (l.map eD).length = l.length := by simp
 refine Ret.of_pwp layOk mixed Go.Proofs.Tryz.func177 rfl (by decide) rfl rfl ?_
 repeat refine aa rfl ?_
 refine ao (fun k => k ≤ l.length ∧ nv (l.take k) = nv l) (fun k => [(0,.sl (l.map eD)),(3,I (k : Nat))]) (fun _ => []) (fun k => k) l.length ⟨Nat.le_refl _,by rw [List.take_length]⟩ ⟨rfl,by rw [← hml];rfl,trivial⟩ ?_
 rintro k s ⟨hk,hv⟩
 have hkl : (l.take k).length = k := by rw [List.length_take];omega
 have fin : (∀ j,k = j + 1 → ∀ x,l[j]? = some x → x.toNat ≠ 0) → l.take k = aG l := by
  intro h0
  rw [aG,← hv]
  refine (dX fun y hy => ?_).symm
  rw [List.getLast?_eq_getElem?,hkl] at hy
  have hk0 : 0 < k := by
   rcases Nat.eq_zero_or_pos k with h | h
   ·subst h;rw [List.take_zero] at hy;cases hy
   ·exact h
  rw [List.getElem?_take,if_pos (by omega)] at hy
  exact h0 (k - 1) (by omega) y hy
 have ending : (l.take k).map eD = (l.map eD).take k := by rw [List.map_take]
 repeat refine aa rfl ?_
 refine fU rfl rfl rfl ?_ ?_<;>intro h
 ·have hk0 : 0 < k := by have := of_decide_eq_true h;omega
  clear h
  obtain ⟨j,rfl⟩ : ∃ j,k = j + 1 := ⟨k - 1,by omega⟩
  obtain ⟨x,hx⟩ := aH (show j < l.length by omega)
  have hw1 : IntKind.i64.wrap (((j + 1 : Nat) : Int) - 1) = (j : Nat) := by rw [wrap_i64 (by omega) (by omega)];omega
  repeat refine aa rfl ?_
  rw [hw1]
  refine bO rfl rfl rfl rfl rfl rfl rfl hx rfl ?_
  repeat refine aa rfl ?_
  refine ab rfl ?_ ?_<;>intro h
  ·have hx0 : x.toNat = 0 := by have := of_decide_eq_true h;omega
   clear h
   repeat refine aa rfl ?_
   refine ⟨j,⟨by omega,?_⟩,by omega,rfl,congrArg I hw1,trivial⟩
   rw [← hv,cn hx,hx0];omega
  ·have hx0 : x.toNat ≠ 0 := by have := of_decide_eq_false h;omega
   clear h
   have ht := fin fun j' hj' x' hx' => by
    obtain rfl : j = j' := by omega
    rw [hx] at hx';cases hx';exact hx0
   rw [ht] at ending
   have htl : ((aG l).map eD).length = j + 1 := by rw [List.length_map,← ht,hkl]
   repeat refine aa rfl ?_
   refine ax (br 0 rfl rfl rfl rfl rfl rfl rfl rfl rfl rfl rfl (by repeat' constructor) rfl ?_)
   repeat refine aa rfl ?_
   refine bp rfl rfl (rb (n := ((j + 1 : Nat) : Int)) rfl rfl rfl rfl rfl (by omega) (by omega) (fun _ => rfl)) ?_
   rw [Int.toNat_natCast,List.map_take,← ending]
   repeat refine aa rfl ?_
   refine ax (bP 1 rfl rfl rfl rfl rfl rfl rfl rfl rfl rfl rfl (by repeat' constructor) (by intro row hr;obtain ⟨p,_,rfl⟩ := List.mem_map.1 hr;rfl) rfl rfl (by simp;have := bz l;omega) (by simp;have := bz l;omega) ?_)
   repeat refine aa rfl ?_
   exact aK rfl rfl rfl
 ·have hk0 : k = 0 := by have := of_decide_eq_false h;omega
  subst hk0
  clear h
  have ht := fin fun j' hj' => by omega
  rw [ht] at ending
  repeat refine aa rfl ?_
  refine ax (br 0 rfl rfl rfl rfl rfl rfl rfl rfl rfl rfl rfl (by repeat' constructor) rfl ?_)
  repeat refine aa rfl ?_
  refine bp rfl rfl (rb (n := ((0 : Nat) : Int)) rfl rfl rfl rfl rfl (by omega) (by omega) (fun _ => rfl)) ?_
  rw [Int.toNat_natCast,List.map_take,← ending]
  repeat refine aa rfl ?_
  refine ax (bP 1 rfl rfl rfl rfl rfl rfl rfl rfl rfl rfl rfl (by repeat' constructor) (by intro row hr;obtain ⟨p,_,rfl⟩ := List.mem_map.1 hr;rfl) rfl rfl (by simp;have := bz l;omega) (by simp;have := bz l;omega) ?_)
  repeat refine aa rfl ?_
  exact aK rfl rfl rfl
theorem cU {α : Type} {l : List α} {k : Nat} {x : α} (h : l[k]? = some x) : l.take (k + 1) = l.take k ++ [x] := by
 rw [List.take_add_one,h];rfl
set_option maxRecDepth 20000 in
theorem d_ (l : List UInt16) (hl : l.length ≤ 900000000) : Ret Tryz.prog .shared 141 [.sl (l.map eU)] (.sl ((aG l).map eD)) := by
 have hml : (l.map eU).length = l.length := by simp
 have ht := dP l (by omega)
 refine Ret.of_pwp layOk mixed Go.Proofs.Tryz.func141 rfl (by decide) rfl rfl ?_
 ((repeat (first | refine aS ?_ | refine b5 ?_ | refine bY ?_ | refine bX ?_));refine aX ?_)
 refine h_ rfl trivial ?_
 ((repeat (first | refine aS ?_ | refine b5 ?_ | refine bY ?_ | refine bX ?_));refine aX ?_)
 (first | refine ax (eW 3 1 0 rfl rfl ?_) | refine ax (eT 3 1 0 rfl rfl ?_))
 repeat refine aa rfl ?_
 refine ao (fun k => k ≤ l.length) (fun k => [(0,.sl (l.map eU)),(3,.als 3 (k + 1) 0 ((l.take k).map eD).length),(4,I (k : Nat))]) (fun k => [(3,k + 1,⟨3,1,(l.take k).map eD,0⟩)]) (fun k => l.length - k) 0 (Nat.zero_le _) ⟨rfl,rfl,rfl,rfl,trivial⟩ ?_
 intro k s hk
 repeat refine aa rfl ?_
 refine ab rfl ?_ ?_<;>intro h
 ·have hlt : k < l.length := by have := of_decide_eq_true h;omega
  clear h
  obtain ⟨x,hx⟩ := aH hlt
  have hxl := aO x
  have hkl : (l.take k).length = k := by rw [List.length_take];omega
  have hw := jx k
  have hcx : IntKind.i64.wrap (x.toNat : Int) = (x.toNat : Int) := wrap_i64 (by omega) (by omega)
  repeat refine aa rfl ?_
  refine bO rfl rfl rfl rfl rfl rfl rfl hx rfl ?_
  repeat refine aa rfl ?_
  rw [hcx]
  refine ax (br 0 rfl rfl rfl rfl rfl rfl rfl rfl rfl rfl rfl (by repeat' constructor) rfl ?_)
  repeat refine aa rfl ?_
  refine ax (bP 0 rfl rfl rfl rfl rfl rfl rfl rfl rfl rfl rfl (by repeat' constructor) (by intro row hr;first | (simp at hr;subst hr;rfl) | simp at hr) rfl rfl (by simp;omega) (by simp;omega) ?_)
  repeat refine aa rfl ?_
  refine ⟨k + 1,hlt,by omega,rfl,?_,congrArg I hw,?_,trivial⟩
  ·rw [cU hx,List.map_append];rfl
  ·rw [cU hx,List.map_append];rfl
 ·have hge : k = l.length := by have := of_decide_eq_false h;omega
  subst hge
  clear h
  rw [List.take_length]
  ((repeat ((fail_if_success (with_reducible refine aM 6 ?_));refine cF rfl ?_));refine ay 1 ?_)
  refine aa rfl ?_
  refine aS ?_
  refine aI rfl (cE (Ghost.takeF (enc := eD) (t := 19) (l) rfl rfl (rfl) rfl (fun _ => rfl)) ?_)
  (refine jf (df rfl (ht) rfl ?_ rfl) ?_;·repeat' constructor)
  refine aD ?_
  repeat refine aa rfl ?_
  exact fc rfl rfl rfl trivial rfl
theorem jl (a b : List UInt16) (ha : a.length ≤ 1000000000) (hb : b.length ≤ 1000000000) : Ret Tryz.prog .shared 147 [.sl (a.map eD),.sl (b.map eD)] (I (g6 a b)) := by
 have hal : (a.map eD).length = a.length := by simp
 have hbl : (b.map eD).length = b.length := by simp
 by_cases he : a.length = b.length
 ·rw [g6,if_pos he]
  have hw0 : IntKind.i64.wrap (((((a.map eD).length : Nat) : Int)) - 1) = (a.length : Int) - 1 := by rw [hal,wrap_i64 (by omega) (by omega)]
  refine Ret.of_pwp layOk mixed Go.Proofs.Tryz.func147 rfl (by decide) rfl rfl ?_
  repeat refine aa rfl ?_
  refine ab rfl ?_ ?_<;>intro h
  ·simp at h;omega
  clear h
  repeat refine aa rfl ?_
  rw [hw0]
  refine ao (fun k : Nat => k ≤ a.length ∧ iZ a b k = iZ a b a.length) (fun k => [(0,.sl (a.map eD)),(1,.sl (b.map eD)),(5,I ((k : Int) - 1))]) (fun _ => []) (fun k => k) a.length ⟨Nat.le_refl _,rfl⟩ ⟨rfl,rfl,rfl,trivial⟩ ?_
  rintro k s ⟨hk,hc⟩
  rw [← hc]
  repeat refine aa rfl ?_
  refine ab rfl ?_ ?_<;>intro h
  ·have hk0 : 0 < k := by have := of_decide_eq_true h;omega
   clear h
   obtain ⟨j,rfl⟩ : ∃ j,k = j + 1 := ⟨k - 1,by omega⟩
   have e1 : (((j + 1 : Nat) : Int) - 1) = (j : Nat) := by omega
   rw [e1]
   have hx := bJ (l := a) (i := j) (by omega)
   have hy := bJ (l := b) (i := j) (by omega)
   have hc1 : iZ a b (j + 1) = if (a.getD j 0).toNat = (b.getD j 0).toNat then iZ a b j else ((a.getD j 0).toNat : Int) - (b.getD j 0).toNat := rfl
   have hxl := aO (a.getD j 0)
   have hyl := aO (b.getD j 0)
   generalize a.getD j 0 = x at *
   generalize b.getD j 0 = y at *
   repeat refine aa rfl ?_
   refine ah 9 [23,24,25,26,27,28,29,30,31] (by decide +kernel) ?_
   repeat refine aa rfl ?_
   refine bO rfl rfl rfl rfl rfl rfl rfl hx rfl ?_
   repeat refine aa rfl ?_
   refine bO rfl rfl rfl rfl rfl rfl rfl hy rfl ?_
   repeat refine aa rfl ?_
   refine ab rfl ?_ ?_<;>intro h
   ·have hne : ¬ x.toNat = y.toNat := by simp at h;intro he;apply h;omega
    clear h
    rw [if_neg hne] at hc1
    rw [hc1]
    repeat refine aa rfl ?_
    refine ah 10 [32,33,34,35,36,37,38,39,40,4] (by decide +kernel) ?_
    repeat refine aa rfl ?_
    refine bO rfl rfl rfl rfl rfl rfl rfl hx rfl ?_
    repeat refine aa rfl ?_
    refine bO rfl rfl rfl rfl rfl rfl rfl hy rfl ?_
    repeat refine aa rfl ?_
    rw [wrap_i64 (n := (x.toNat : Int) - (y.toNat : Int)) (by omega) (by omega)]
    repeat refine aa rfl ?_
    exact bu rfl rfl rfl
   ·have hne : x.toNat = y.toNat := by simp at h;omega
    clear h
    rw [if_pos hne] at hc1
    repeat refine aa rfl ?_
    refine ⟨j,⟨by omega,by rw [← hc1,hc]⟩,by omega,rfl,rfl,?_,trivial⟩
    exact congrArg I (wrap_i64 (by omega) (by omega))
  ·have hk0 : k = 0 := by have := of_decide_eq_false h;omega
   subst hk0
   clear h
   repeat refine aa rfl ?_
   exact bu rfl rfl rfl
 ·rw [g6,if_neg he]
  refine Ret.of_pwp layOk mixed Go.Proofs.Tryz.func147 rfl (by decide) rfl rfl ?_
  repeat refine aa rfl ?_
  refine ab rfl ?_ ?_<;>intro h
  ·repeat refine aa rfl ?_
   rw [hal,hbl,wrap_i64 (by omega) (by omega)]
   exact bu rfl rfl rfl
  ·simp at h;omega
theorem kH (a : Nat) : Int.tmod (a : Int) 65536 = ((UInt16.ofNat a).toNat : Int) := by
 rw [aL,Int.tmod_eq_emod_of_nonneg (by omega)];omega
theorem kG (a : Nat) : Int.tdiv (a : Int) 65536 = ((a / 65536 : Nat) : Int) := by
 rw [Int.tdiv_eq_ediv_of_nonneg (by omega)];omega
theorem gH (k : Nat) (l : List UInt16) (a : UInt16) : PV.als k (l.length + 1 + 1) 0 (l.map eD ++ [eD a]).length = PV.als k ((l ++ [a]).length + 1) 0 ((l ++ [a]).map eD).length := by simp
theorem fa (T sz kd : Nat) (l : List UInt16) (a : UInt16) : (l.length + 1 + 1,some (Cont.mk T sz (l.map eD ++ [eD a]) kd)) = ((l ++ [a]).length + 1,some (Cont.mk T sz ((l ++ [a]).map eD) kd)) := by simp
set_option maxRecDepth 20000 in
theorem uc (a b : List UInt16) (ha : a.length ≤ 400000000) (hb : b.length ≤ 400000000) : Ret Tryz.prog .shared 146 [.sl (a.map eD),.sl (b.map eD)] (.sl ((ak (nv a + nv b)).map eD)) := by
 have hal : (a.map eD).length = a.length := by simp
 have hbl : (b.map eD).length = b.length := by simp
 refine Ret.of_pwp layOk mixed Go.Proofs.Tryz.func146 rfl (by decide) rfl rfl ?_
 ((repeat (first | refine aS ?_ | refine b5 ?_ | refine bY ?_ | refine bX ?_));refine aX ?_)
 refine h_ rfl trivial ?_
 ((repeat (first | refine aS ?_ | refine b5 ?_ | refine bY ?_ | refine bX ?_));refine aX ?_)
 (first | refine ax (eW 3 1 0 rfl rfl ?_) | refine ax (eT 3 1 0 rfl rfl ?_))
 repeat refine aa rfl ?_
 refine ao (RPlus a b) (fun q => [(0,.sl (a.map eD)),(1,.sl (b.map eD)),(5,.als 5 (q.2.1.length + 1) 0 (q.2.1.map eD).length),(6,I (q.2.2 : Nat)),(7,I (q.1 : Nat))]) (fun q => [(5,q.2.1.length + 1,⟨3,1,q.2.1.map eD,0⟩)]) (fun q => a.length + b.length + 1 - q.1) (0,[],0)
  ⟨rfl,by decide,by simp only;omega,by simp [nv]⟩ ⟨rfl,rfl,rfl,rfl,rfl,rfl,trivial⟩ ?_
 rintro ⟨k,L,c⟩ s hI
 have hc := hI.c
 have hLl := hI.l
 have hkk := hI.k
 simp only at hc hLl hkk
 dsimp only
 have hstep := fun h => rl hI h
 have hend := fun h => ub hI h
 have e1 := fb a k (by omega) (by omega)
 have e2 := fb b k (by omega) (by omega)
 have hxl := cO a k
 have hyl := cO b k
 have hw := jx k
 have s1 : IntKind.i64.wrap ((cb a k : Int) + (cb b k : Int)) = ((cb a k + cb b k : Nat) : Int) := by rw [wrap_i64 (by omega) (by omega)];omega
 have s2 : IntKind.i64.wrap (((cb a k + cb b k : Nat) : Int) + (c : Int)) = ((cb a k + cb b k + c : Nat) : Int) := by rw [wrap_i64 (by omega) (by omega)];omega
 generalize cb a k = x at *
 generalize cb b k = y at *
 have hr : Int.tmod ((x + y + c : Nat) : Int) 65536 = ((UInt16.ofNat (x + y + c)).toNat : Int) := kH _
 have hq : IntKind.i64.wrap (Int.tdiv ((x + y + c : Nat) : Int) 65536) = (((x + y + c) / 65536 : Nat) : Int) := by rw [kG,wrap_i64] <;> omega
 repeat refine aa rfl ?_
 refine fU rfl rfl rfl ?_ ?_<;>intro h
 ·have hyes : k < a.length ∨ k < b.length ∨ 0 < c := .inl (by have := of_decide_eq_true h;rw [hal] at this;omega)
  clear h
  have hst := (hstep hyes).1
  have hlt := (hstep hyes).2
  repeat refine aa rfl ?_
  refine aY rfl rfl rfl e1 rfl rfl rfl ?_
  repeat refine aa rfl ?_
  refine aY rfl rfl rfl e2 rfl rfl rfl ?_
  repeat refine aa rfl ?_
  rw [s1]
  repeat refine aa rfl ?_
  rw [s2]
  repeat refine aa rfl ?_
  refine bp rfl rfl (QOp.v rfl (show ¬ (65536 : Int) = 0 by decide)) ?_
  rw [hr]
  refine ax (br 0 rfl rfl rfl rfl rfl rfl rfl rfl rfl rfl rfl (by repeat' constructor) rfl ?_)
  repeat refine aa rfl ?_
  refine ax (bP 0 rfl rfl rfl rfl rfl rfl rfl rfl rfl rfl rfl (by repeat' constructor) (by intro row hr;first | (simp at hr;subst hr;rfl) | simp at hr) rfl rfl (by simp;omega) (by simp;omega) ?_)
  repeat refine aa rfl ?_
  refine bp rfl rfl (QOp.v rfl (show ¬ (65536 : Int) = 0 by decide)) ?_
  rw [hq]
  repeat refine aa rfl ?_
  refine ⟨(k + 1,L ++ [UInt16.ofNat (x + y + c)],(x + y + c) / 65536),hst,by simp only;omega,rfl,rfl,?_,rfl,congrArg I hw,?_,trivial⟩
  ·exact gH 5 L (UInt16.ofNat (x + y + c))
  ·exact fa 3 1 0 L (UInt16.ofNat (x + y + c))
 ·have h1 : ¬ k < a.length := by have := of_decide_eq_false h;rw [hal] at this;omega
  clear h
  repeat refine aa rfl ?_
  refine fU rfl rfl rfl ?_ ?_<;>intro h
  ·have hyes : k < a.length ∨ k < b.length ∨ 0 < c := .inr (.inl (by have := of_decide_eq_true h;rw [hbl] at this;omega))
   clear h
   have hst := (hstep hyes).1
   have hlt := (hstep hyes).2
   repeat refine aa rfl ?_
   refine aY rfl rfl rfl e1 rfl rfl rfl ?_
   repeat refine aa rfl ?_
   refine aY rfl rfl rfl e2 rfl rfl rfl ?_
   repeat refine aa rfl ?_
   rw [s1]
   repeat refine aa rfl ?_
   rw [s2]
   repeat refine aa rfl ?_
   refine bp rfl rfl (QOp.v rfl (show ¬ (65536 : Int) = 0 by decide)) ?_
   rw [hr]
   refine ax (br 0 rfl rfl rfl rfl rfl rfl rfl rfl rfl rfl rfl (by repeat' constructor) rfl ?_)
   repeat refine aa rfl ?_
   refine ax (bP 0 rfl rfl rfl rfl rfl rfl rfl rfl rfl rfl rfl (by repeat' constructor) (by intro row hr;first | (simp at hr;subst hr;rfl) | simp at hr) rfl rfl (by simp;omega) (by simp;omega) ?_)
   repeat refine aa rfl ?_
   refine bp rfl rfl (QOp.v rfl (show ¬ (65536 : Int) = 0 by decide)) ?_
   rw [hq]
   repeat refine aa rfl ?_
   refine ⟨(k + 1,L ++ [UInt16.ofNat (x + y + c)],(x + y + c) / 65536),hst,by simp only;omega,rfl,rfl,?_,rfl,congrArg I hw,?_,trivial⟩
   ·exact gH 5 L (UInt16.ofNat (x + y + c))
   ·exact fa 3 1 0 L (UInt16.ofNat (x + y + c))
  ·have h2 : ¬ k < b.length := by have := of_decide_eq_false h;rw [hbl] at this;omega
   clear h
   repeat refine aa rfl ?_
   refine ab rfl ?_ ?_<;>intro h
   ·have hyes : k < a.length ∨ k < b.length ∨ 0 < c := .inr (.inr (by have := of_decide_eq_true h;omega))
    clear h
    have hst := (hstep hyes).1
    have hlt := (hstep hyes).2
    repeat refine aa rfl ?_
    refine aY rfl rfl rfl e1 rfl rfl rfl ?_
    repeat refine aa rfl ?_
    refine aY rfl rfl rfl e2 rfl rfl rfl ?_
    repeat refine aa rfl ?_
    rw [s1]
    repeat refine aa rfl ?_
    rw [s2]
    repeat refine aa rfl ?_
    refine bp rfl rfl (QOp.v rfl (show ¬ (65536 : Int) = 0 by decide)) ?_
    rw [hr]
    refine ax (br 0 rfl rfl rfl rfl rfl rfl rfl rfl rfl rfl rfl (by repeat' constructor) rfl ?_)
    repeat refine aa rfl ?_
    refine ax (bP 0 rfl rfl rfl rfl rfl rfl rfl rfl rfl rfl rfl (by repeat' constructor) (by intro row hr;first | (simp at hr;subst hr;rfl) | simp at hr) rfl rfl (by simp;omega) (by simp;omega) ?_)
    repeat refine aa rfl ?_
    refine bp rfl rfl (QOp.v rfl (show ¬ (65536 : Int) = 0 by decide)) ?_
    rw [hq]
    repeat refine aa rfl ?_
    refine ⟨(k + 1,L ++ [UInt16.ofNat (x + y + c)],(x + y + c) / 65536),hst,by simp only;omega,rfl,rfl,?_,rfl,congrArg I hw,?_,trivial⟩
    ·exact gH 5 L (UInt16.ofNat (x + y + c))
    ·exact fa 3 1 0 L (UInt16.ofNat (x + y + c))
   ·have h3 : ¬ 0 < c := by have := of_decide_eq_false h;omega
    clear h
    have hfin := hend (by omega)
    have ht := dP L (by omega)
    rw [aG,hfin] at ht
    ((repeat ((fail_if_success (with_reducible refine aM 9 ?_));refine cF rfl ?_));refine ay 1 ?_)
    refine aa rfl ?_
    refine aS ?_
    refine aI rfl (cE (Ghost.takeF (enc := eD) (t := 41) (L) rfl rfl (rfl) rfl (fun _ => rfl)) ?_)
    (refine jf (df rfl (ht) rfl ?_ rfl) ?_;·repeat' constructor)
    refine aD ?_
    repeat refine aa rfl ?_
    exact fc rfl rfl rfl trivial rfl
set_option maxRecDepth 20000 in
theorem iR (a b : List UInt16) (ha : a.length ≤ 900000000) (hb : b.length ≤ 900000000) (hle : nv b ≤ nv a) : Ret Tryz.prog .shared 148 [.sl (a.map eD),.sl (b.map eD)] (.sl ((ak (nv a - nv b)).map eD)) := by
 have hal : (a.map eD).length = a.length := by simp
 refine Ret.of_pwp layOk mixed Go.Proofs.Tryz.func148 rfl (by decide) rfl rfl ?_
 ((repeat (first | refine aS ?_ | refine b5 ?_ | refine bY ?_ | refine bX ?_));refine aX ?_)
 refine h_ rfl trivial ?_
 ((repeat (first | refine aS ?_ | refine b5 ?_ | refine bY ?_ | refine bX ?_));refine aX ?_)
 (first | refine ax (eW 3 1 0 rfl rfl ?_) | refine ax (eT 3 1 0 rfl rfl ?_))
 repeat refine aa rfl ?_
 refine ao (RMin a b) (fun q => [(0,.sl (a.map eD)),(1,.sl (b.map eD)),(5,.als 5 (q.2.1.length + 1) 0 (q.2.1.map eD).length),(6,I (q.2.2 : Nat)),(7,I (q.1 : Nat))]) (fun q => [(5,q.2.1.length + 1,⟨3,1,q.2.1.map eD,0⟩)]) (fun q => a.length - q.1) (0,[],0)
  ⟨rfl,by decide,Nat.zero_le _,by simp [nv]⟩ ⟨rfl,rfl,rfl,rfl,rfl,rfl,trivial⟩ ?_
 rintro ⟨k,L,c⟩ s hI
 have hc := hI.c
 have hLl := hI.l
 have hkk := hI.k
 simp only at hc hLl hkk
 dsimp only
 repeat refine aa rfl ?_
 refine ab rfl ?_ ?_<;>intro h
 ·have hlt : k < a.length := by have := of_decide_eq_true h;omega
  clear h
  have hst := t7 hI hlt
  have hx := bJ (l := a) (i := k) hlt
  have e2 := fb b k (by omega) (by omega)
  have hxl := cO a k
  have hyl := cO b k
  have hw := jx k
  have hX : (a.getD k 0).toNat = cb a k := rfl
  generalize cb b k = y at *
  generalize cb a k = X at *
  generalize a.getD k 0 = x at *
  subst hX
  have s1 : IntKind.i64.wrap ((x.toNat : Int) - (y : Int)) = (x.toNat : Int) - (y : Int) := by rw [wrap_i64 (by omega) (by omega)]
  have s2 : IntKind.i64.wrap ((x.toNat : Int) - (y : Int) - (c : Int)) = (x.toNat : Int) - (y : Int) - (c : Int) := by rw [wrap_i64 (by omega) (by omega)]
  have hlen : (L.map eD).length = L.length := by simp
  have hsd := zY hxl hyl hc
  have hrow : ∀ m : Nat,m < 65536 → eD (UInt16.ofNat m) = [I (m : Nat)] := fun m hm => by rw [eD,aL,Nat.mod_eq_of_lt hm]
  by_cases hn : x.toNat < y + c
  ·have hd : (x.toNat : Int) - (y : Int) - (c : Int) + 65536 = ((uJ x.toNat y c : Nat) : Int) := by rw [uJ,if_pos hn];omega
   have s3 : IntKind.i64.wrap ((x.toNat : Int) - (y : Int) - (c : Int) + 65536) = ((uJ x.toNat y c : Nat) : Int) := by rw [hd,wrap_i64 (by omega) (by omega)]
   have hcc : yY x.toNat y c = 1 := by rw [yY,if_pos hn]
   rw [hcc] at hst
   have hrw := hrow _ hsd.2.1
   generalize uJ x.toNat y c = D at *
   repeat refine aa rfl ?_
   refine ah 11 [15,16,17,18,19,20,21,22,23,24,8] (by decide +kernel) ?_
   repeat refine aa rfl ?_
   refine bO rfl rfl rfl rfl rfl rfl rfl hx rfl ?_
   repeat refine aa rfl ?_
   refine aY rfl rfl rfl e2 rfl rfl rfl ?_
   repeat refine aa rfl ?_
   rw [s1]
   repeat refine aa rfl ?_
   rw [s2]
   repeat refine aa rfl ?_
   refine ab rfl ?_ ?_<;>intro h
   ·clear h
    repeat refine aa rfl ?_
    rw [s3]
    repeat refine aa rfl ?_
    refine ax (br 0 rfl rfl rfl rfl rfl rfl rfl rfl rfl rfl rfl (by repeat' constructor) rfl ?_)
    repeat refine aa rfl ?_
    refine ax (bP 0 rfl rfl rfl rfl rfl rfl rfl rfl rfl rfl rfl (by repeat' constructor) (by intro row hr;first | (simp at hr;subst hr;rfl) | simp at hr) rfl rfl (by simp;omega) (by simp;omega) ?_)
    repeat refine aa rfl ?_
    refine ⟨(k + 1,L ++ [UInt16.ofNat D],1),hst,by simp only;omega,rfl,rfl,?_,rfl,congrArg I hw,?_,trivial⟩
    ·have := gH 5 L (UInt16.ofNat D);rw [hrw] at this;exact this
    ·have := fa 3 1 0 L (UInt16.ofNat D);rw [hrw] at this;exact this
   ·have := of_decide_eq_false h;omega
  ·have hd : (x.toNat : Int) - (y : Int) - (c : Int) = ((uJ x.toNat y c : Nat) : Int) := by rw [uJ,if_neg hn];omega
   rw [hd] at s2
   have hcc : yY x.toNat y c = 0 := by rw [yY,if_neg hn]
   rw [hcc] at hst
   have hrw := hrow _ hsd.2.1
   generalize uJ x.toNat y c = D at *
   repeat refine aa rfl ?_
   refine ah 11 [15,16,17,18,19,20,21,22,23,24,8] (by decide +kernel) ?_
   repeat refine aa rfl ?_
   refine bO rfl rfl rfl rfl rfl rfl rfl hx rfl ?_
   repeat refine aa rfl ?_
   refine aY rfl rfl rfl e2 rfl rfl rfl ?_
   repeat refine aa rfl ?_
   rw [s1]
   repeat refine aa rfl ?_
   rw [hd,s2]
   repeat refine aa rfl ?_
   refine ax (br 0 rfl rfl rfl rfl rfl rfl rfl rfl rfl rfl rfl (by repeat' constructor) rfl ?_)
   repeat refine aa rfl ?_
   refine ax (bP 0 rfl rfl rfl rfl rfl rfl rfl rfl rfl rfl rfl (by repeat' constructor) (by intro row hr;first | (simp at hr;subst hr;rfl) | simp at hr) rfl rfl (by simp;omega) (by simp;omega) ?_)
   repeat refine aa rfl ?_
   refine ⟨(k + 1,L ++ [UInt16.ofNat D],0),hst,by simp only;omega,rfl,rfl,?_,rfl,congrArg I hw,?_,trivial⟩
   ·have := gH 5 L (UInt16.ofNat D);rw [hrw] at this;exact this
   ·have := fa 3 1 0 L (UInt16.ofNat D);rw [hrw] at this;exact this
 ·have hge : k = a.length := by have := of_decide_eq_false h;omega
  subst hge
  clear h
  have hfin := wW hI hle
  have ht := dP L (by omega)
  rw [aG,hfin] at ht
  ((repeat ((fail_if_success (with_reducible refine aM 12 ?_));refine cF rfl ?_));refine ay 1 ?_)
  refine aa rfl ?_
  refine aS ?_
  refine aI rfl (cE (Ghost.takeF (enc := eD) (t := 33) (L) rfl rfl (rfl) rfl (fun _ => rfl)) ?_)
  (refine jf (df rfl (ht) rfl ?_ rfl) ?_;·repeat' constructor)
  refine aD ?_
  repeat refine aa rfl ?_
  exact fc rfl rfl rfl trivial rfl
theorem wT (n : Nat) : List.replicate n [PV.int .i64 0] = (List.replicate n (0 : UInt16)).map eD := by rw [List.map_replicate];rfl
theorem oX (k g i : Nat) (R : List UInt16) (y : UInt16) : PV.als k g 0 (((R.map eD).set i (eD y))).length = PV.als k g 0 ((R.set i y).map eD).length := by simp
theorem mK (g T sz kd i : Nat) (R : List UInt16) (y : UInt16) : (g,some (Cont.mk T sz ((R.map eD).set i (eD y)) kd)) = (g,some (Cont.mk T sz ((R.set i y).map eD) kd)) := by rw [List.map_set]
set_option maxRecDepth 20000 in
theorem iS (a b : List UInt16) (ha : a.length ≤ 400000000) (hb : b.length ≤ 400000000) : Ret Tryz.prog .shared 149 [.sl (a.map eD),.sl (b.map eD)] (.sl ((ak (nv a * nv b)).map eD)) := by
 have hal : (a.map eD).length = a.length := by simp
 have hbl : (b.map eD).length = b.length := by simp
 have hw0 : IntKind.i64.wrap ((((a.map eD).length : Nat) : Int) + (((b.map eD).length : Nat) : Int)) = ((a.length + b.length : Nat) : Int) := by rw [hal,hbl,wrap_i64 (by omega) (by omega)];omega
 have hw1 : IntKind.i64.wrap (((a.length + b.length : Nat) : Int) + 1) = ((a.length + b.length + 1 : Nat) : Int) := by rw [wrap_i64 (by omega) (by omega)];omega
 refine Ret.of_pwp layOk mixed Go.Proofs.Tryz.func149 rfl (by decide) rfl rfl ?_
 repeat refine aa rfl ?_
 rw [hw0]
 repeat refine aa rfl ?_
 rw [hw1]
 refine ax (fF rfl rfl rfl rfl rfl rfl rfl rfl (by omega) (by show (8 : Int) * _ ≤ _;omega) (by omega) ?_)
 rw [Int.toNat_natCast,wT]
 repeat refine aa rfl ?_
 refine ao (RTimO a b) (fun q => [(0,.sl (a.map eD)),(1,.sl (b.map eD)),(5,.als 16 1 0 (q.2.map eD).length),(6,I q.1)])
  (fun q => [(16,1,⟨3,1,q.2.map eD,0⟩)]) (fun q => a.length - q.1) (0,List.replicate (a.length + b.length + 1) 0) ⟨Nat.zero_le _,by simp,by simp [nv];exact ol _⟩ ⟨rfl,rfl,rfl,rfl,rfl,trivial⟩ ?_
 rintro ⟨i,R⟩ s1 hO
 have hi := hO.i
 have hRl := hO.l
 simp only at hi hRl
 dsimp only
 repeat refine aa rfl ?_
 refine ab rfl ?_ ?_<;>intro h
 ·have hlt : i < a.length := by have := of_decide_eq_true h;omega
  clear h
  repeat refine aa rfl ?_
  refine ao (RTimI a b i) (fun q => [(0,.sl (a.map eD)),(1,.sl (b.map eD)),(5,.als 16 1 0 (q.2.1.map eD).length),(6,I i),(7,I (q.2.2 : Nat)),(8,I (q.1 : Nat))])
   (fun q => [(16,1,⟨3,1,q.2.1.map eD,0⟩)]) (fun q => b.length + 1 - q.1) (0,R,0) (rm hO) ⟨rfl,rfl,rfl,rfl,rfl,rfl,rfl,trivial⟩ ?_
  rintro ⟨k,Q,c⟩ s2 hI
  have hk := hI.k
  have hc := hI.c
  have hQl := hI.l
  simp only at hk hc hQl
  dsimp only
  have hQm : (Q.map eD).length = Q.length := by simp
  have body : ∀ _ : k < b.length ∨ 0 < c,True := fun _ => trivial
  clear body
  have hkB := fun h => AJ hI h
  have hstep := fun h => uf (r := Q.getD (i + k) 0) hI h
  have hnext := fun h => ue hI hlt h
  repeat refine aa rfl ?_
  refine fU rfl rfl rfl ?_ ?_<;>intro h
  ·have hyes : k < b.length ∨ 0 < c := .inl (by have := of_decide_eq_true h;omega)
   clear h
   have hkb := hkB hyes
   have hr := bJ (l := Q) (i := i + k) (by omega)
   have hst := hstep hkb hr
   have hx := bJ (l := a) (i := i) hlt
   have hX : (a.getD i 0).toNat = cb a i := rfl
   have hxl := cO a i
   have hyl := cO b k
   have e2 := fb b k (by omega) (by omega)
   have hm := pG hxl hyl
   have hrl := aO (Q.getD (i + k) 0)
   have hr2 : (Q.map eD)[i + k]? = some (eD (Q.getD (i + k) 0)) := by rw [List.getElem?_map,hr];rfl
   have ei : IntKind.i64.wrap ((i : Int) + (k : Int)) = ((i + k : Nat) : Int) := by rw [wrap_i64 (by omega) (by omega)];omega
   generalize Q.getD (i + k) 0 = r at *
   generalize cb b k = y at *
   generalize cb a i = X at *
   generalize a.getD i 0 = x at *
   subst hX
   have s1 : IntKind.i64.wrap ((x.toNat : Int) * (y : Int)) = ((x.toNat * y : Nat) : Int) := by rw [← Int.natCast_mul,wrap_i64 (by omega) (by omega)]
   have s2 : IntKind.i64.wrap ((r.toNat : Int) + ((x.toNat * y : Nat) : Int)) = ((r.toNat + x.toNat * y : Nat) : Int) := by rw [wrap_i64 (by omega) (by omega)];omega
   have s3 : IntKind.i64.wrap (((r.toNat + x.toNat * y : Nat) : Int) + (c : Int)) = ((r.toNat + x.toNat * y + c : Nat) : Int) := by rw [wrap_i64 (by omega) (by omega)];omega
   generalize x.toNat * y = P at *
   have hrm : Int.tmod ((r.toNat + P + c : Nat) : Int) 65536 = ((UInt16.ofNat (r.toNat + P + c)).toNat : Int) := kH _
   have hq : IntKind.i64.wrap (Int.tdiv ((r.toNat + P + c : Nat) : Int) 65536) = (((r.toNat + P + c) / 65536 : Nat) : Int) := by rw [kG,wrap_i64] <;> omega
   generalize hsm : r.toNat + P + c = sm at *
   repeat refine aa rfl ?_
   refine ah 18 [33,34,35,36,37,38,39,40,41,42,43,44,45,46,47,48,49,9] (by decide +kernel) ?_
   repeat refine aa rfl ?_
   rw [ei]
   refine bp rfl rfl (bg rfl rfl rfl rfl rfl rfl rfl (by omega) (by rw [List.length_map];omega)) ?_
   rw [Int.toNat_natCast,Nat.zero_add (i + k)]
   refine bp rfl rfl (bG rfl rfl rfl hr2 rfl) ?_
   repeat refine aa rfl ?_
   refine bO rfl rfl rfl rfl rfl rfl rfl hx rfl ?_
   repeat refine aa rfl ?_
   refine aY rfl rfl rfl e2 rfl rfl rfl ?_
   repeat refine aa rfl ?_
   rw [s1]
   repeat refine aa rfl ?_
   rw [s2]
   repeat refine aa rfl ?_
   rw [s3]
   repeat refine aa rfl ?_
   rw [ei]
   repeat refine aa rfl ?_
   refine bp rfl rfl (QOp.v rfl (show ¬ (65536 : Int) = 0 by decide)) ?_
   rw [hrm]
   repeat refine aa rfl ?_
   refine bp rfl rfl (bg rfl rfl rfl rfl rfl rfl rfl (by omega) (by rw [List.length_map];omega)) ?_
   rw [Int.toNat_natCast,Nat.zero_add (i + k)]
   refine be (bc (kd' := 0) rfl rfl rfl hr2 rfl rfl (by repeat' constructor) rfl rfl rfl rfl ?_)
   repeat refine aa rfl ?_
   refine bp rfl rfl (QOp.v rfl (show ¬ (65536 : Int) = 0 by decide)) ?_
   rw [hq]
   repeat refine aa rfl ?_
   refine ⟨(k + 1,_,_),hst,by simp only;omega,rfl,rfl,?_,rfl,rfl,bI (by omega) (by omega),?_,trivial⟩
   ·show PV.als 16 1 0 (Q.map eD).length = _
    rw [← oX 16 1 (i + k) Q (UInt16.ofNat sm),List.length_set]
   ·exact mK 1 3 1 0 (i + k) Q (UInt16.ofNat sm)
  ·have h1 : ¬ k < b.length := by have := of_decide_eq_false h;omega
   clear h
   repeat refine aa rfl ?_
   refine ab rfl ?_ ?_<;>intro h
   ·have hyes : k < b.length ∨ 0 < c := .inr (by have := of_decide_eq_true h;omega)
    clear h
    have hkb := hkB hyes
    have hr := bJ (l := Q) (i := i + k) (by omega)
    have hst := hstep hkb hr
    have hx := bJ (l := a) (i := i) hlt
    have hX : (a.getD i 0).toNat = cb a i := rfl
    have hxl := cO a i
    have hyl := cO b k
    have e2 := fb b k (by omega) (by omega)
    have hm := pG hxl hyl
    have hrl := aO (Q.getD (i + k) 0)
    have hr2 : (Q.map eD)[i + k]? = some (eD (Q.getD (i + k) 0)) := by rw [List.getElem?_map,hr];rfl
    have ei : IntKind.i64.wrap ((i : Int) + (k : Int)) = ((i + k : Nat) : Int) := by rw [wrap_i64 (by omega) (by omega)];omega
    generalize Q.getD (i + k) 0 = r at *
    generalize cb b k = y at *
    generalize cb a i = X at *
    generalize a.getD i 0 = x at *
    subst hX
    have s1 : IntKind.i64.wrap ((x.toNat : Int) * (y : Int)) = ((x.toNat * y : Nat) : Int) := by rw [← Int.natCast_mul,wrap_i64 (by omega) (by omega)]
    have s2 : IntKind.i64.wrap ((r.toNat : Int) + ((x.toNat * y : Nat) : Int)) = ((r.toNat + x.toNat * y : Nat) : Int) := by rw [wrap_i64 (by omega) (by omega)];omega
    have s3 : IntKind.i64.wrap (((r.toNat + x.toNat * y : Nat) : Int) + (c : Int)) = ((r.toNat + x.toNat * y + c : Nat) : Int) := by rw [wrap_i64 (by omega) (by omega)];omega
    generalize x.toNat * y = P at *
    have hrm : Int.tmod ((r.toNat + P + c : Nat) : Int) 65536 = ((UInt16.ofNat (r.toNat + P + c)).toNat : Int) := kH _
    have hq : IntKind.i64.wrap (Int.tdiv ((r.toNat + P + c : Nat) : Int) 65536) = (((r.toNat + P + c) / 65536 : Nat) : Int) := by rw [kG,wrap_i64] <;> omega
    generalize hsm : r.toNat + P + c = sm at *
    repeat refine aa rfl ?_
    refine ah 18 [33,34,35,36,37,38,39,40,41,42,43,44,45,46,47,48,49,9] (by decide +kernel) ?_
    repeat refine aa rfl ?_
    rw [ei]
    refine bp rfl rfl (bg rfl rfl rfl rfl rfl rfl rfl (by omega) (by rw [List.length_map];omega)) ?_
    rw [Int.toNat_natCast,Nat.zero_add (i + k)]
    refine bp rfl rfl (bG rfl rfl rfl hr2 rfl) ?_
    repeat refine aa rfl ?_
    refine bO rfl rfl rfl rfl rfl rfl rfl hx rfl ?_
    repeat refine aa rfl ?_
    refine aY rfl rfl rfl e2 rfl rfl rfl ?_
    repeat refine aa rfl ?_
    rw [s1]
    repeat refine aa rfl ?_
    rw [s2]
    repeat refine aa rfl ?_
    rw [s3]
    repeat refine aa rfl ?_
    rw [ei]
    repeat refine aa rfl ?_
    refine bp rfl rfl (QOp.v rfl (show ¬ (65536 : Int) = 0 by decide)) ?_
    rw [hrm]
    repeat refine aa rfl ?_
    refine bp rfl rfl (bg rfl rfl rfl rfl rfl rfl rfl (by omega) (by rw [List.length_map];omega)) ?_
    rw [Int.toNat_natCast,Nat.zero_add (i + k)]
    refine be (bc (kd' := 0) rfl rfl rfl hr2 rfl rfl (by repeat' constructor) rfl rfl rfl rfl ?_)
    repeat refine aa rfl ?_
    refine bp rfl rfl (QOp.v rfl (show ¬ (65536 : Int) = 0 by decide)) ?_
    rw [hq]
    repeat refine aa rfl ?_
    refine ⟨(k + 1,_,_),hst,by simp only;omega,rfl,rfl,?_,rfl,rfl,bI (by omega) (by omega),?_,trivial⟩
    ·show PV.als 16 1 0 (Q.map eD).length = _
     rw [← oX 16 1 (i + k) Q (UInt16.ofNat sm),List.length_set]
    ·exact mK 1 3 1 0 (i + k) Q (UInt16.ofNat sm)
   ·have h2 : ¬ 0 < c := by have := of_decide_eq_false h;omega
    clear h
    have hst := hnext (by omega)
    repeat refine aa rfl ?_
    refine ⟨(i + 1,Q),hst,by simp only;omega,rfl,rfl,rfl,bI (by omega) (by omega),rfl,trivial⟩
 ·have hge : i = a.length := by have := of_decide_eq_false h;omega
  subst hge
  clear h
  have hv := hO.v
  simp only [List.take_length] at hv
  have ht := dP R (by omega)
  rw [aG,hv] at ht
  ((repeat ((fail_if_success (with_reducible refine aM 12 ?_));refine cF rfl ?_));refine ay 1 ?_)
  refine aa rfl ?_
  refine aS ?_
  refine aI rfl (cE (Ghost.takeF (enc := eD) (t := 59) (R) rfl rfl (rfl) rfl (fun _ => rfl)) ?_)
  (refine jf (df rfl (ht) rfl ?_ rfl) ?_;·repeat' constructor)
  refine aD ?_
  repeat refine aa rfl ?_
  exact fc rfl rfl rfl trivial rfl
theorem wz {m : Nat} (h : m < 65536) : nv [UInt16.ofNat m] = m := by simp [nv];omega
theorem vE {m : Nat} (h : m < 65536) : eD (UInt16.ofNat m) = [I (m : Nat)] := by rw [eD,aL,Nat.mod_eq_of_lt h]
theorem si (x : UInt16) (l : List UInt16) : nv (x :: l) = x.toNat + 65536 * nv l := rfl
theorem fC {n : Nat} {L : List UInt16} (h : n ≤ nv L) : (ak n).length ≤ L.length := bF (Nat.lt_of_le_of_lt h (bC L))
def Bm (a b : List UInt16) : PV := .tup [.sl ((ak (nv a / nv b)).map eD),.sl ((ak (nv a % nv b)).map eD)]
structure RHalf (q lo hi : Nat) : Prop where
 l : lo ≤ q
 h : q ≤ hi
 m : hi ≤ 65535
set_option maxRecDepth 20000 in
theorem jQ (a b : List UInt16) (ha : a.length ≤ 200000000) (hb : b.length ≤ 200000000) (hb0 : nv b ≠ 0) : Ret Tryz.prog .shared 145 [.sl (a.map eD),.sl (b.map eD)] (Bm a b) := by
 have hal : (a.map eD).length = a.length := by simp
 have hbp : 0 < nv b := Nat.pos_of_ne_zero hb0
 rw [Bm]
 have hw0 : IntKind.i64.wrap ((((a.map eD).length : Nat) : Int) - 1) = ((a.length : Nat) : Int) - 1 := by rw [hal,wrap_i64 (by omega) (by omega)]
 refine Ret.of_pwp layOk mixed Go.Proofs.Tryz.func145 rfl (by decide) rfl rfl ?_
 (repeat ((fail_if_success (with_reducible refine aM 2 ?_));refine cF rfl ?_))
 refine aB (Ghost.nilsl (t := 6) rfl) ?_
 repeat refine aa rfl ?_
 refine ax (fF rfl rfl rfl rfl rfl rfl rfl rfl (by omega) (by show (8 : Int) * _ ≤ _;omega) (by omega) ?_)
 rw [hal,Int.toNat_natCast,wT]
 repeat refine aa rfl ?_
 rw [hw0]
 refine ao (ROvr a b) (fun q => [(0,.sl (a.map eD)),(1,.sl (b.map eD)),(6,.sl ((ak q.2.2).map eD)),(7,.als 14 1 0 (q.2.1.map eD).length),(8,I ((q.1 : Int) - 1))])
  (fun q => [(14,1,⟨3,1,q.2.1.map eD,0⟩)]) (fun q => q.1) (a.length,List.replicate a.length 0,0) ri ⟨rfl,rfl,by rw [bb];rfl,rfl,rfl,rfl,trivial⟩ ?_
 rintro ⟨k,Q,r⟩ s1 hO
 have hk := hO.i
 have hQl := hO.l
 simp only at hk hQl
 dsimp only
 repeat refine aa rfl ?_
 refine ab rfl ?_ ?_<;>intro h
 ·have hk0 : 0 < k := by have := of_decide_eq_true h;omega
  clear h
  obtain ⟨i,rfl⟩ : ∃ i,k = i + 1 := ⟨k - 1,by omega⟩
  have e1 : (((i + 1 : Nat) : Int) - 1) = (i : Nat) := by omega
  rw [e1]
  obtain ⟨x,hx⟩ := aH (show i < a.length by omega)
  have hxl := aO x
  obtain ⟨hq,hst⟩ := ua hbp hO hx
  have hrb : r < nv b := by have := hO.r;simp only at this;rw [this];exact Nat.mod_lt _ hbp
  have hrl : (ak r).length ≤ 200000000 := by have := fC (L := b) (Nat.le_of_lt hrb);omega
  have htr := dP (x :: ak r) (by simp;omega)
  rw [aG,si,aC] at htr
  have hRl : (ak (x.toNat + 65536 * r)).length ≤ 200000001 := by
   have := b8 (x :: ak r)
   rw [si,aC] at this
   simp at this;omega
  generalize hR : x.toNat + 65536 * r = R at *
  have hRm : R % nv b = R - nv b * (R / nv b) := by have := Nat.mod_add_div R (nv b);omega
  have hQm : (Q.map eD).length = Q.length := by simp
  have hQi := bJ (l := Q) (i := i) (by omega)
  have hQ2 : (Q.map eD)[i]? = some (eD (Q.getD i 0)) := by rw [List.getElem?_map,hQi];rfl
  have hrow : (x :: ak r).map eD = [eD x] ++ (ak r).map eD := rfl
  ((repeat ((fail_if_success (with_reducible refine aM 6 ?_));refine cF rfl ?_));refine ay 7 ?_)
  iterate 2 refine aa rfl ?_
  refine bO rfl rfl rfl rfl rfl rfl rfl hx rfl ?_
  refine aa rfl ?_
  refine ax (br 0 rfl rfl rfl rfl rfl rfl rfl rfl rfl rfl rfl (by repeat' constructor) rfl ?_)
  refine aa rfl ?_
  refine ax (bP 1 rfl rfl rfl rfl rfl rfl rfl rfl rfl rfl rfl (by repeat' constructor) (by intro row hr;obtain ⟨p,_,rfl⟩ := List.mem_map.1 hr;rfl) rfl rfl (by simp;omega) (by simp;omega) ?_)
  refine aS ?_
  refine aI rfl (cE (Ghost.takeF (enc := eD) (t := 28) (x :: ak r) rfl rfl (rfl) rfl (fun _ => rfl)) ?_)
  (refine jf (df rfl (htr) rfl ?_ rfl) ?_;·repeat' constructor)
  refine aD ?_
  repeat refine aa rfl ?_
  refine ao (fun q : Nat × Nat => RHalf (R / nv b) q.1 q.2) (fun q => [(0,.sl (a.map eD)),(1,.sl (b.map eD)),(6,.sl ((ak R).map eD)),(7,.als 14 1 0 (Q.map eD).length),(8,I (i : Nat)),(9,I (q.1 : Nat)),(10,I (q.2 : Nat))])
   (fun q => [(14,1,⟨3,1,Q.map eD,0⟩)]) (fun q => q.2 - q.1) (0,65535) ⟨Nat.zero_le _,by simp only;omega,Nat.le_refl _⟩ ⟨rfl,rfl,rfl,rfl,rfl,rfl,rfl,rfl,trivial⟩ ?_
  rintro ⟨lo,hi⟩ s2 ⟨hl,hh,hm⟩
  simp only at hl hh hm
  dsimp only
  repeat refine aa rfl ?_
  refine ab rfl ?_ ?_<;>intro h
  ·have hlt : lo < hi := by have := of_decide_eq_true h;omega
   clear h
   have w1 : IntKind.i64.wrap ((lo : Int) + (hi : Int)) = ((lo + hi : Nat) : Int) := by rw [wrap_i64 (by omega) (by omega)];omega
   have w2 : IntKind.i64.wrap (((lo + hi : Nat) : Int) + 1) = ((lo + hi + 1 : Nat) : Int) := by rw [wrap_i64 (by omega) (by omega)];omega
   have w3 : IntKind.i64.wrap (Int.tdiv ((lo + hi + 1 : Nat) : Int) 2) = (((lo + hi + 1) / 2 : Nat) : Int) := by rw [Int.tdiv_eq_ediv_of_nonneg (by omega),wrap_i64] <;> omega
   generalize hmm : (lo + hi + 1) / 2 = m at *
   have w4 : IntKind.i64.wrap ((m : Int) - 1) = ((m - 1 : Nat) : Int) := by rw [wrap_i64 (by omega) (by omega)];omega
   have hm1 : m < 65536 := by omega
   have ht := iS b [UInt16.ofNat m] (by omega) (by simp)
   rw [wz hm1,show [UInt16.ofNat m].map eD = [eD (UInt16.ofNat m)] from rfl,vE hm1] at ht
   have hbm : (ak (nv b * m)).length ≤ 300000000 := by
    have h1 : nv b * m < 65536 ^ (b.length + 1) := by
     have := dE (bC b) (show m < 65536 ^ 1 by omega)
     exact this
    have := bF h1
    omega
   have hc := jl (ak (nv b * m)) (ak R) (by omega) (by omega)
   have hcs := dO (a_ (nv b * m)) (a_ R)
   rw [aC,aC] at hcs
   have hle : g6 (ak (nv b * m)) (ak R) ≤ 0 ↔ m ≤ R / nv b := by
    rw [Nat.le_div_iff_mul_le hbp,Nat.mul_comm m]
    omega
   generalize g6 (ak (nv b * m)) (ak R) = cv at *
   generalize ak (nv b * m) = BM at *
   repeat refine aa rfl ?_
   rw [w1]
   repeat refine aa rfl ?_
   rw [w2]
   repeat refine aa rfl ?_
   refine bp rfl rfl (QOp.v rfl (show ¬ (2 : Int) = 0 by decide)) ?_
   rw [w3]
   repeat refine aa rfl ?_
   refine bp rfl rfl (dg rfl rfl rfl rfl rfl rfl rfl rfl rfl rfl (by repeat' constructor) rfl) ?_
   repeat refine aa rfl ?_
   refine ap rfl rfl rfl ht rfl rfl ?_
   repeat refine aa rfl ?_
   refine aY rfl rfl rfl hc rfl rfl rfl ?_
   repeat refine aa rfl ?_
   refine ab rfl ?_ ?_<;>intro h
   ·have h1 := hle.1 (of_decide_eq_true h)
    clear h
    repeat refine aa rfl ?_
    exact ⟨(m,hi),⟨h1,hh,hm⟩,by simp only;omega,rfl,rfl,rfl,rfl,rfl,rfl,rfl,rfl,trivial⟩
   ·have h1 : ¬ m ≤ R / nv b := fun h2 => (of_decide_eq_false h) (hle.2 h2)
    clear h
    repeat refine aa rfl ?_
    exact ⟨(lo,m - 1),⟨hl,by simp only;omega,by simp only;omega⟩,by simp only;omega,rfl,rfl,rfl,rfl,rfl,rfl,congrArg I w4,rfl,trivial⟩
  ·have hge : lo = R / nv b := by have := of_decide_eq_false h;omega
   clear h
   have hw : IntKind.i64.wrap ((i : Int) - 1) = (i : Int) - 1 := wrap_i64 (by omega) (by omega)
   rw [← hge] at hst hRm
   have hlo : lo < 65536 := by omega
   have hlb : nv b * lo ≤ R := by rw [hge];exact Nat.mul_div_le R (nv b)
   have hbl : (ak (nv b * lo)).length ≤ 200000001 := by have := cK hlb;omega
   have ht := iS b [UInt16.ofNat lo] (by omega) (by simp)
   rw [wz hlo,show [UInt16.ofNat lo].map eD = [eD (UInt16.ofNat lo)] from rfl,vE hlo] at ht
   have hmn := iR (ak R) (ak (nv b * lo)) (by omega) (by omega) (by rw [aC,aC];exact hlb)
   rw [aC,aC,← hRm] at hmn
   have hset : (Q.map eD).set i [I (lo : Nat)] = (Q.set i (UInt16.ofNat lo)).map eD := by rw [List.map_set,vE hlo]
   have hsetl : (Q.map eD).length = ((Q.set i (UInt16.ofNat lo)).map eD).length := by simp
   generalize ak (nv b * lo) = BL at *
   repeat refine aa rfl ?_
   refine bp rfl rfl (bg rfl rfl rfl rfl rfl rfl rfl (by omega) (by rw [List.length_map];omega)) ?_
   rw [Int.toNat_natCast,Nat.zero_add i]
   refine be (bc (kd' := 0) rfl rfl rfl hQ2 rfl rfl (by repeat' constructor) rfl rfl rfl rfl ?_)
   repeat refine aa rfl ?_
   refine ab rfl ?_ ?_<;>intro h
   ·have h1 : 0 < lo := by have := of_decide_eq_true h;omega
    clear h
    repeat refine aa rfl ?_
    refine bp rfl rfl (dg rfl rfl rfl rfl rfl rfl rfl rfl rfl rfl (by repeat' constructor) rfl) ?_
    repeat refine aa rfl ?_
    refine ap rfl rfl rfl ht rfl rfl ?_
    repeat refine aa rfl ?_
    refine ap rfl rfl rfl hmn rfl rfl ?_
    repeat refine aa rfl ?_
    refine ⟨(i,Q.set i (UInt16.ofNat lo),R % nv b),hst,by simp only;omega,rfl,rfl,rfl,?_,congrArg I hw,?_,trivial⟩
    ·exact congrArg (PV.als 14 1 0) hsetl
    ·show (1,some (Cont.mk 3 1 ((Q.map eD).set i [I (lo : Nat)]) 0)) = _
     rw [hset]
   ·have h1 : lo = 0 := by have := of_decide_eq_false h;omega
    clear h
    have hRR : R % nv b = R := by rw [hRm,h1];omega
    repeat refine aa rfl ?_
    refine ⟨(i,Q.set i (UInt16.ofNat lo),R % nv b),hst,by simp only;omega,rfl,rfl,by rw [hRR];rfl,?_,congrArg I hw,?_,trivial⟩
    ·exact congrArg (PV.als 14 1 0) hsetl
    ·show (1,some (Cont.mk 3 1 ((Q.map eD).set i [I (lo : Nat)]) 0)) = _
     rw [hset]
 ·have hk0 : k = 0 := by have := of_decide_eq_false h;omega
  subst hk0
  clear h
  obtain ⟨hv,hr⟩ := wZ hO
  subst hr
  have ht := dP Q (by omega)
  rw [aG,hv] at ht
  ((repeat ((fail_if_success (with_reducible refine aM 16 ?_));refine cF rfl ?_));refine ay 1 ?_)
  refine aa rfl ?_
  refine aS ?_
  refine aI rfl (cE (Ghost.takeF (enc := eD) (t := 60) (Q) rfl rfl (rfl) rfl (fun _ => rfl)) ?_)
  (refine jf (df rfl (ht) rfl ?_ rfl) ?_;·repeat' constructor)
  refine aD ?_
  repeat refine aa rfl ?_
  exact qO rfl rfl rfl rfl rfl trivial trivial rfl
set_option maxRecDepth 20000 in
theorem wV (a b : List UInt16) (ha : a.length ≤ 100000000) (hb : b.length ≤ 100000000) (hta : Trm a) (htb : Trm b) : Ret Tryz.prog .shared 144 [.sl (a.map eD),.sl (b.map eD)] (.sl ((ak (Nat.gcd (nv a) (nv b))).map eD)) := by
 generalize hg : Nat.gcd (nv a) (nv b) = g
 refine Ret.of_pwp layOk mixed Go.Proofs.Tryz.func144 rfl (by decide) rfl rfl ?_
 repeat refine aa rfl ?_
 refine ao (fun q : List UInt16 × List UInt16 => q.1.length ≤ 100000000 ∧ q.2.length ≤ 100000000 ∧ Trm q.1 ∧ Trm q.2 ∧ Nat.gcd (nv q.1) (nv q.2) = g) (fun q => [(0,.sl (q.1.map eD)),(1,.sl (q.2.map eD))]) (fun _ => []) (fun q => nv q.2) (a,b) ⟨ha,hb,hta,htb,hg⟩ ⟨rfl,rfl,trivial⟩ ?_
 rintro ⟨A,B⟩ s ⟨hA,hB,htA,htB,hG⟩
 simp only at hA hB htA htB hG
 dsimp only
 have hBm : (B.map eD).length = B.length := by simp
 repeat refine aa rfl ?_
 refine ab rfl ?_ ?_<;>intro h
 ·have hB0 : 0 < B.length := by have := of_decide_eq_true h;omega
  clear h
  have hB0v : nv B ≠ 0 := by
   match B,hB0,htB with
   |x :: l,_,h => exact kM h
  have hd := jQ A B (by omega) (by omega) hB0v
  rw [Bm] at hd
  have hml := Nat.mod_lt (nv A) (Nat.pos_of_ne_zero hB0v)
  have hnext : (ak (nv A % nv B)).length ≤ 100000000 := by
   have h1 := cK (Nat.le_of_lt hml)
   have h2 := b8 B
   omega
  have hG2 : Nat.gcd (nv B) (nv (ak (nv A % nv B))) = g := by rw [aC,Nat.gcd_comm,← Nat.gcd_rec,Nat.gcd_comm];exact hG
  repeat refine aa rfl ?_
  refine ap rfl rfl rfl hd rfl rfl ?_
  repeat refine aa rfl ?_
  exact ⟨(B,ak (nv A % nv B)),⟨hB,hnext,htB,a_ _,hG2⟩,by simp only;rw [aC];exact hml,rfl,rfl,trivial⟩
 ·have hB0 : B.length = 0 := by have := of_decide_eq_false h;omega
  clear h
  have hB0v := List.length_eq_zero_iff.1 hB0
  subst hB0v
  rw [nv,Nat.gcd_zero_right] at hG
  rw [← hG,dX htA]
  repeat refine aa rfl ?_
  exact fc rfl rfl rfl trivial rfl
theorem ww (neg : Bool) (l : List UInt16) (h : Trm l) : bL (c6 neg (nv l)) = ⟨neg && decide (0 < l.length),l⟩ := by
 rw [kD]
 cases l with
 |nil => rw [nv,if_pos rfl];simp
 |cons x l =>
  rw [if_neg (kM h),dX h]
  simp
set_option maxRecDepth 20000 in
theorem db (neg : Bool) (l : List UInt16) (hl : l.length ≤ 900000000) (ht : Trm l) : Ret Tryz.prog .shared 142 [.bool neg,.sl (l.map eD)] (.agg (eI (bL (c6 neg (nv l))))) := by
 have hml : (l.map eD).length = l.length := by simp
 rw [ww neg l ht]
 cases neg with
 |false =>
  rw [Bool.false_and]
  refine Ret.of_pwp layOk mixed Go.Proofs.Tryz.func142 rfl (by decide) rfl rfl ?_
  (repeat ((fail_if_success (with_reducible refine aM 2 ?_));refine cF rfl ?_))
  refine aB (Ghost.nilcell (k := 1007) (k0 := 5) (i := 0) (j := 1) 180 1 0 rfl rfl rfl rfl (row := [.bool false,.nil]) rfl rfl rfl) ?_
  repeat refine aa rfl ?_
  refine ao (fun k => k ≤ l.length) (fun k => [(1,.sl (l.map eD)),(4,.ptr 4 1 0 0),(5,.ptr 5 1 0 0),(6,I (k : Nat))])
   (fun k => [(4,1,⟨24,2,[[.bool false,.nil]],2⟩),(5,1,⟨24,2,[[.bool false,.als 1007 (k + 1) 0 ((l.take k).map eU).length]],2⟩),(1007,k + 1,⟨180,1,(l.take k).map eU,0⟩)]) (fun k => l.length - k) 0 (Nat.zero_le _) ⟨rfl,rfl,rfl,rfl,rfl,rfl,rfl,trivial⟩ ?_
  intro k s hk
  repeat refine aa rfl ?_
  refine ab rfl ?_ ?_<;>intro h
  ·have hlt : k < l.length := by have := of_decide_eq_true h;omega
   clear h
   obtain ⟨x,hx⟩ := aH hlt
   have hxl := aO x
   have hkl : (l.take k).length = k := by rw [List.length_take];omega
   have hw := jx k
   have hcx : IntKind.u16.wrap (x.toNat : Int) = (x.toNat : Int) := by rw [IntKind.wrap_u16];omega
   repeat refine aa rfl ?_
   refine ah 8 [20,21,22,23,24,25,26,27] (by decide +kernel) ?_
   repeat refine aa rfl ?_
   refine bO rfl rfl rfl rfl rfl rfl rfl hx rfl ?_
   repeat refine aa rfl ?_
   rw [hcx]
   refine bp rfl rfl (dg rfl rfl rfl rfl rfl rfl rfl rfl rfl rfl (by repeat' constructor) rfl) ?_
   repeat refine aa rfl ?_
   refine ax (bP 0 rfl rfl rfl rfl rfl rfl rfl rfl rfl rfl rfl (by repeat' constructor) (by intro row hr;first | (simp at hr;subst hr;rfl) | simp at hr) rfl rfl (by simp;omega) (by simp;omega) ?_)
   repeat refine aa rfl ?_
   refine ⟨k + 1,hlt,by omega,rfl,rfl,rfl,congrArg I hw,rfl,?_,?_,trivial⟩
   ·rw [cU hx,List.map_append];rfl
   ·rw [cU hx,List.map_append];rfl
  ·have hge : k = l.length := by have := of_decide_eq_false h;omega
   subst hge
   clear h
   rw [List.take_length]
   repeat refine aa rfl ?_
   exact aK rfl rfl rfl
 |true =>
  rw [Bool.true_and]
  have hd : decide ((0 : Int) < (((l.map eD).length : Nat) : Int)) = decide (0 < l.length) := by rw [hml,decide_eq_decide];omega
  rw [← hd]
  generalize hP : decide ((0 : Int) < (((l.map eD).length : Nat) : Int)) = P
  refine Ret.of_pwp layOk mixed Go.Proofs.Tryz.func142 rfl (by decide) rfl rfl ?_
  ((repeat (first | refine aS ?_ | refine b5 ?_ | refine bY ?_ | refine bX ?_));refine aX ?_)
  (repeat ((fail_if_success (with_reducible refine aM 2 ?_));refine cF rfl ?_))
  rw [hP]
  refine aB (Ghost.nilcell (k := 1007) (k0 := 5) (i := 0) (j := 1) 180 1 0 rfl rfl rfl rfl (row := [.bool P,.nil]) rfl rfl rfl) ?_
  repeat refine aa rfl ?_
  refine ao (fun k => k ≤ l.length) (fun k => [(1,.sl (l.map eD)),(4,.ptr 4 1 0 0),(5,.ptr 5 1 0 0),(6,I (k : Nat))])
   (fun k => [(4,1,⟨24,2,[[.bool false,.nil]],2⟩),(5,1,⟨24,2,[[.bool P,.als 1007 (k + 1) 0 ((l.take k).map eU).length]],2⟩),(1007,k + 1,⟨180,1,(l.take k).map eU,0⟩)]) (fun k => l.length - k) 0 (Nat.zero_le _) ⟨rfl,rfl,rfl,rfl,rfl,rfl,rfl,trivial⟩ ?_
  intro k s hk
  repeat refine aa rfl ?_
  refine ab rfl ?_ ?_<;>intro h
  ·have hlt : k < l.length := by have := of_decide_eq_true h;omega
   clear h
   obtain ⟨x,hx⟩ := aH hlt
   have hxl := aO x
   have hkl : (l.take k).length = k := by rw [List.length_take];omega
   have hw := jx k
   have hcx : IntKind.u16.wrap (x.toNat : Int) = (x.toNat : Int) := by rw [IntKind.wrap_u16];omega
   repeat refine aa rfl ?_
   refine ah 8 [20,21,22,23,24,25,26,27] (by decide +kernel) ?_
   repeat refine aa rfl ?_
   refine bO rfl rfl rfl rfl rfl rfl rfl hx rfl ?_
   repeat refine aa rfl ?_
   rw [hcx]
   refine bp rfl rfl (dg rfl rfl rfl rfl rfl rfl rfl rfl rfl rfl (by repeat' constructor) rfl) ?_
   repeat refine aa rfl ?_
   refine ax (bP 0 rfl rfl rfl rfl rfl rfl rfl rfl rfl rfl rfl (by repeat' constructor) (by intro row hr;first | (simp at hr;subst hr;rfl) | simp at hr) rfl rfl (by simp;omega) (by simp;omega) ?_)
   repeat refine aa rfl ?_
   refine ⟨k + 1,hlt,by omega,rfl,rfl,rfl,congrArg I hw,rfl,?_,?_,trivial⟩
   ·rw [cU hx,List.map_append];rfl
   ·rw [cU hx,List.map_append];rfl
  ·have hge : k = l.length := by have := of_decide_eq_false h;omega
   subst hge
   clear h
   rw [List.take_length]
   repeat refine aa rfl ?_
   exact aK rfl rfl rfl
theorem lD {n : Nat} {L : List UInt16} {u : Nat} (h : ak n = L ++ ak u) (hu : 0 < u) : ak n = (L ++ [UInt16.ofNat u]) ++ ak (u / 65536) := by
 rw [h,cw (by omega),List.append_assoc];rfl
theorem lC {n : Nat} (h : n < 18446744073709551616) : (ak n).length ≤ 4 := by
 have e : (65536 : Nat) ^ 4 = 18446744073709551616 := by decide
 exact bF (by omega)
set_option maxRecDepth 20000 in
theorem yU (n : Int) (h0 : 0 ≤ n) (h1 : n ≤ 9223372036854775807) : Ret Tryz.prog .shared 143 [I n] (.agg (eI (bL n))) := by
 have hm := db false (ak n.toNat) (by have := lC (n := n.toNat) (by omega);omega) (a_ _)
 rw [aC,show c6 false n.toNat = n by rw [c6];simp;omega] at hm
 have hcv : IntKind.u64.wrap n = ((n.toNat : Nat) : Int) := by rw [wrap_u64 (by omega) (by omega)];omega
 have hnl := lC (n := n.toNat) (by omega)
 have hlt : decide (n < 0) = false := decide_eq_false (by omega)
 generalize bL n = Z at *
 refine Ret.of_pwp layOk mixed Go.Proofs.Tryz.func143 rfl (by decide) rfl rfl ?_
 (repeat ((fail_if_success (with_reducible refine aM 1 ?_));refine cF rfl ?_))
 ((repeat (first | refine aS ?_ | refine b5 ?_ | refine bY ?_ | refine bX ?_));refine aX ?_)
 (first | refine ax (eW 3 1 0 rfl rfl ?_) | refine ax (eT 3 1 0 rfl rfl ?_))
 repeat refine aa rfl ?_
 rw [hcv]
 repeat refine aa rfl ?_
 refine ab rfl ?_ ?_<;>intro h
 ·have := of_decide_eq_true h;omega
 clear h
 repeat refine aa rfl ?_
 refine ao (fun q : List UInt16 × Nat => q.2 < 18446744073709551616 ∧ ak n.toNat = q.1 ++ ak q.2) (fun q => [(0,I n),(2,.ptr 2 1 0 0),(3,.als 3 (q.1.length + 1) 0 (q.1.map eD).length),(4,.int .u64 (q.2 : Nat))])
  (fun q => [(2,1,⟨24,2,[[.bool false,.nil]],2⟩),(3,q.1.length + 1,⟨3,1,q.1.map eD,0⟩)]) (fun q => q.2) ([],n.toNat) ⟨by simp only;omega,rfl⟩ ⟨rfl,rfl,rfl,rfl,rfl,rfl,trivial⟩ ?_
 rintro ⟨L,u⟩ s ⟨hu,hL⟩
 simp only at hu hL
 dsimp only
 have hLl : L.length ≤ 4 := by rw [hL] at hnl;simp at hnl;omega
 repeat refine aa rfl ?_
 refine ab rfl ?_ ?_<;>intro h
 ·have hu0 : 0 < u := by have := of_decide_eq_true h;omega
  clear h
  have hst := lD hL hu0
  have hr : IntKind.i64.wrap (Int.tmod ((u : Nat) : Int) 65536) = ((UInt16.ofNat u).toNat : Int) := by rw [kH,wrap_i64] <;> (have := aO (UInt16.ofNat u);omega)
  have hq : IntKind.u64.wrap (Int.tdiv ((u : Nat) : Int) 65536) = ((u / 65536 : Nat) : Int) := by rw [kG,wrap_u64] <;> omega
  repeat refine aa rfl ?_
  refine bp rfl rfl (QOp.v rfl (show ¬ (65536 : Int) = 0 by decide)) ?_
  repeat refine aa rfl ?_
  rw [hr]
  refine ax (br 0 rfl rfl rfl rfl rfl rfl rfl rfl rfl rfl rfl (by repeat' constructor) rfl ?_)
  repeat refine aa rfl ?_
  refine ax (bP 0 rfl rfl rfl rfl rfl rfl rfl rfl rfl rfl rfl (by repeat' constructor) (by intro row hr;first | (simp at hr;subst hr;rfl) | simp at hr) rfl rfl (by simp;omega) (by simp;omega) ?_)
  repeat refine aa rfl ?_
  refine bp rfl rfl (QOp.v rfl (show ¬ (65536 : Int) = 0 by decide)) ?_
  rw [hq]
  repeat refine aa rfl ?_
  refine ⟨(L ++ [UInt16.ofNat u],u / 65536),⟨by simp only;omega,hst⟩,by simp only;omega,rfl,rfl,?_,rfl,rfl,?_,trivial⟩
  ·exact gH 3 L (UInt16.ofNat u)
  ·exact fa 3 1 0 L (UInt16.ofNat u)
 ·have hu0 : u = 0 := by have := of_decide_eq_false h;omega
  clear h
  subst hu0
  rw [bb,List.append_nil] at hL
  rw [hL] at hm
  ((repeat ((fail_if_success (with_reducible refine aM 8 ?_));refine cF rfl ?_));refine ay 3 ?_)
  iterate 2 refine aa rfl ?_
  rw [hlt]
  refine aa rfl ?_
  refine aS ?_
  refine aI rfl (cE (Ghost.takeF (enc := eD) (t := 23) (L) rfl rfl (rfl) rfl (fun _ => rfl)) ?_)
  (refine jf (df rfl (hm) rfl ?_ rfl) ?_;·repeat' constructor)
  refine aD ?_
  repeat refine aa rfl ?_
  exact aK rfl rfl rfl
theorem wX (a : RI) (ha : a.l.length ≤ 800000000) : Ret Tryz.prog .shared 150 [.agg (eI a)] (.agg (eI (bL (-a.val)))) := by
 have hr := d_ a.l (by omega)
 have hm := db (!a.neg) (aG a.l) (by have := bz a.l;omega) (dq _)
 rw [b7,show c6 (!a.neg) (nv a.l) = -a.val by rw [a.val_sgz];cases a.neg <;> simp [c6]] at hm
 generalize bL (-a.val) = Z at *
 generalize aG a.l = T at *
 obtain ⟨an,al⟩ := a
 simp only at *
 refine Ret.of_pwp layOk mixed Go.Proofs.Tryz.func150 rfl (by decide) rfl rfl ?_
 repeat refine aa rfl ?_
 refine ah 7 [3,4,5,6,7,8,9] (by decide +kernel) ?_
 repeat refine aa rfl ?_
 refine ap rfl rfl rfl hr rfl rfl ?_
 repeat refine aa rfl ?_
 refine ap rfl rfl rfl hm rfl rfl ?_
 repeat refine aa rfl ?_
 exact aK rfl rfl rfl
set_option maxRecDepth 20000 in
theorem lX (a b : RI) (ha : a.l.length ≤ 300000000) (hb : b.l.length ≤ 300000000) : Ret Tryz.prog .shared 90 [.agg (eI a),.agg (eI b)] (.agg (eI (bL (a.val * b.val)))) := by
 have e : a.val * b.val = c6 (a.neg != b.neg) (nv a.l * nv b.l) := by
  rw [a.val_sgz,b.val_sgz]
  cases a.neg <;> cases b.neg <;> simp [c6,Int.neg_mul,Int.mul_neg]
 rw [e]
 have hta := d_ a.l (by omega)
 have htb := d_ b.l (by omega)
 have hla := bz a.l
 have hlb := bz b.l
 have ht := iS (aG a.l) (aG b.l) (by omega) (by omega)
 rw [b7,b7] at ht
 have hs := db (a.neg != b.neg) (ak (nv a.l * nv b.l)) (by
  have := bF (dE (bC a.l) (bC b.l));omega) (a_ _)
 rw [aC] at hs
 obtain ⟨an,al⟩ := a
 obtain ⟨bn,bl⟩ := b
 simp only at *
 generalize aG al = A at *
 generalize aG bl = B at *
 generalize ak (nv al * nv bl) = C at *
 generalize bL (c6 (an != bn) (nv al * nv bl)) = X at *
 refine Ret.of_pwp layOk mixed Go.Proofs.Tryz.func90 rfl (by decide) rfl rfl ?_
 repeat refine aa rfl ?_
 refine ah 13 [5,6,7,8,9,10,11,12,13,14,15,16,17] (by decide +kernel) ?_
 repeat refine aa rfl ?_
 refine ap rfl rfl rfl hta rfl rfl ?_
 repeat refine aa rfl ?_
 refine ap rfl rfl rfl htb rfl rfl ?_
 repeat refine aa rfl ?_
 refine ap rfl rfl rfl ht rfl rfl ?_
 repeat refine aa rfl ?_
 refine ap rfl rfl rfl hs rfl rfl ?_
 repeat refine aa rfl ?_
 exact aK rfl rfl rfl
set_option maxRecDepth 20000 in
theorem wP (a b : RI) (ha : a.l.length ≤ 300000000) (hb : b.l.length ≤ 300000000) : Ret Tryz.prog .shared 89 [.agg (eI a),.agg (eI b)] (.agg (eI (bL (a.val + b.val)))) := by
 have hta := d_ a.l (by omega)
 have htb := d_ b.l (by omega)
 have hla := bz a.l
 have hlb := bz b.l
 have hA := dq a.l
 have hB := dq b.l
 have hnA := b7 a.l
 have hnB := b7 b.l
 rw [a.val_sgz,b.val_sgz]
 obtain ⟨an,al⟩ := a
 obtain ⟨bn,bl⟩ := b
 simp only at *
 rw [← hnA,← hnB]
 generalize aG al = A at *
 generalize aG bl = B at *
 have hp := uc A B (by omega) (by omega)
 have hcm := jl A B (by omega) (by omega)
 have hcs := (dO hA hB).1
 have hlA := b8 A
 have hlB := b8 B
 have hlp : (ak (nv A + nv B)).length ≤ 900000000 := by
  have := oV (n := 400000000) (A := A) (B := B) (by omega) (by omega)
  omega
 by_cases hs : an = bn
 ·subst hs
  have hd := db an (ak (nv A + nv B)) hlp (a_ _)
  rw [aC] at hd
  have e : c6 an (nv A) + c6 an (nv B) = c6 an (nv A + nv B) := by cases an <;> simp only [c6,Bool.false_eq_true,if_false,if_true] <;> omega
  rw [e]
  generalize ak (nv A + nv B) = C at *
  generalize bL (c6 an (nv A + nv B)) = X at *
  refine Ret.of_pwp layOk mixed Go.Proofs.Tryz.func89 rfl (by decide) rfl rfl ?_
  repeat refine aa rfl ?_
  refine ah 8 [7,8,9,10,11,12,5,6] (by decide +kernel) ?_
  repeat refine aa rfl ?_
  refine ap rfl rfl rfl hta rfl rfl ?_
  repeat refine aa rfl ?_
  refine ap rfl rfl rfl htb rfl rfl ?_
  repeat refine aa rfl ?_
  refine ab rfl ?_ ?_<;>intro h
  ·clear h
   repeat refine aa rfl ?_
   refine ah 6 [18,19,20,21,22,23] (by decide +kernel) ?_
   repeat refine aa rfl ?_
   refine ap rfl rfl rfl hp rfl rfl ?_
   repeat refine aa rfl ?_
   refine ap rfl rfl rfl hd rfl rfl ?_
   repeat refine aa rfl ?_
   exact aK rfl rfl rfl
  ·exfalso
   simp at h
 ·have hmA : nv B ≤ nv A → Ret Tryz.prog .shared 148 [.sl (A.map eD),.sl (B.map eD)] (.sl ((ak (nv A - nv B)).map eD)) := iR A B (by omega) (by omega)
  have hmB : nv A ≤ nv B → Ret Tryz.prog .shared 148 [.sl (B.map eD),.sl (A.map eD)] (.sl ((ak (nv B - nv A)).map eD)) := iR B A (by omega) (by omega)
  have hlm : (ak (nv A - nv B)).length ≤ 900000000 := by have := cK (Nat.sub_le (nv A) (nv B));omega
  have hlm2 : (ak (nv B - nv A)).length ≤ 900000000 := by have := cK (Nat.sub_le (nv B) (nv A));omega
  have hdA := db an (ak (nv A - nv B)) hlm (a_ _)
  have hdB := db bn (ak (nv B - nv A)) hlm2 (a_ _)
  rw [aC] at hdA hdB
  have eA : nv B ≤ nv A → c6 an (nv A) + c6 bn (nv B) = c6 an (nv A - nv B) := by intro h;cases an <;> cases bn <;> simp_all only [c6,Bool.false_eq_true,if_false,if_true,not_true_eq_false,reduceCtorEq,not_false_eq_true] <;> omega
  have eB : nv A ≤ nv B → c6 an (nv A) + c6 bn (nv B) = c6 bn (nv B - nv A) := by intro h;cases an <;> cases bn <;> simp_all only [c6,Bool.false_eq_true,if_false,if_true,not_true_eq_false,reduceCtorEq,not_false_eq_true] <;> omega
  generalize c6 an (nv A) + c6 bn (nv B) = Z at *
  generalize ak (nv A - nv B) = C at *
  generalize ak (nv B - nv A) = D at *
  generalize hX : bL (c6 an (nv A - nv B)) = X at *
  generalize hY : bL (c6 bn (nv B - nv A)) = Y at *
  refine Ret.of_pwp layOk mixed Go.Proofs.Tryz.func89 rfl (by decide) rfl rfl ?_
  repeat refine aa rfl ?_
  refine ah 8 [7,8,9,10,11,12,5,6] (by decide +kernel) ?_
  repeat refine aa rfl ?_
  refine ap rfl rfl rfl hta rfl rfl ?_
  repeat refine aa rfl ?_
  refine ap rfl rfl rfl htb rfl rfl ?_
  repeat refine aa rfl ?_
  refine ab rfl ?_ ?_<;>intro h
  ·exfalso
   simp at h
   exact hs h
  ·clear h
   repeat refine aa rfl ?_
   refine aY rfl rfl rfl hcm rfl rfl rfl ?_
   repeat refine aa rfl ?_
   refine ab rfl ?_ ?_<;>intro h
   ·have hge : nv B ≤ nv A := by
     have h1 := of_decide_eq_true h
     omega
    clear h
    repeat refine aa rfl ?_
    refine ah 6 [28,29,30,31,32,33] (by decide +kernel) ?_
    repeat refine aa rfl ?_
    refine ap rfl rfl rfl (hmA hge) rfl rfl ?_
    repeat refine aa rfl ?_
    refine ap rfl rfl rfl hdA rfl rfl ?_
    repeat refine aa rfl ?_
    exact qP rfl (by repeat' constructor) rfl (by repeat' constructor) (by rw [eA hge,hX];rfl)
   ·have hge : nv A ≤ nv B := by
     have h1 := of_decide_eq_false h
     omega
    clear h
    repeat refine aa rfl ?_
    refine ah 6 [34,35,36,37,38,39] (by decide +kernel) ?_
    repeat refine aa rfl ?_
    refine ap rfl rfl rfl (hmB hge) rfl rfl ?_
    repeat refine aa rfl ?_
    refine ap rfl rfl rfl hdB rfl rfl ?_
    repeat refine aa rfl ?_
    exact qP rfl (by repeat' constructor) rfl (by repeat' constructor) (by rw [eB hge,hY];rfl)
theorem pJ (z : Int) : ofQ ((z : Rat)) = ⟨bL z,bL 1⟩ := by
 rw [ofQ,Rat.num_intCast,Rat.den_intCast];rfl
theorem kC (q : Rat) : ofQ q = ⟨bL q.num,bL (q.den : Int)⟩ := by
 rw [ofQ,bL,bL]
 congr 2
set_option maxRecDepth 20000 in
theorem lY (a b : RI) (ha : a.l.length ≤ 90000000) (hb : b.l.length ≤ 90000000) : Ret Tryz.prog .shared 88 [.agg (eI a),.agg (eI b)] (.agg (eR (ofQ ((a.val : Rat) / (b.den : Rat))))) := by
 have hta := d_ a.l (by omega)
 have htb := d_ b.l (by omega)
 have hla := bz a.l
 have hlb := bz b.l
 have hb0 := nD (l := b.l)
 have hAn := b7 a.l
 have hBn := b7 b.l
 have hAt := dq a.l
 have hBt := dq b.l
 have h1 := yU 1 (by decide) (by decide)
 by_cases h0 : nv b.l = 0
 ·have e : ofQ ((a.val : Rat) / (b.den : Rat)) = ⟨bL a.val,bL 1⟩ := by
   rw [RI.den,if_pos h0,← pJ]
   congr 1
   rw [show ((1 : Int) : Rat) = 1 from rfl];grind
  rw [e]
  have hm := db a.neg (aG a.l) (by omega) hAt
  rw [hAn,← a.val_sgz] at hm
  have hz : aG b.l = [] := by rw [aG,h0,bb]
  rw [hz] at htb
  generalize bL a.val = X at *
  generalize bL 1 = Y at *
  generalize aG a.l = A at *
  obtain ⟨an,al⟩ := a
  obtain ⟨bn,bl⟩ := b
  simp only at *
  refine Ret.of_pwp layOk mixed Go.Proofs.Tryz.func88 rfl (by decide) rfl rfl ?_
  repeat refine aa rfl ?_
  refine ah 8 [12,13,14,15,16,17,5,6] (by decide +kernel) ?_
  repeat refine aa rfl ?_
  refine ap rfl rfl rfl hta rfl rfl ?_
  repeat refine aa rfl ?_
  refine ap rfl rfl rfl htb rfl rfl ?_
  repeat refine aa rfl ?_
  refine ap rfl rfl rfl hm rfl rfl ?_
  repeat refine aa rfl ?_
  refine ap rfl rfl rfl h1 rfl rfl ?_
  repeat refine aa rfl ?_
  exact aK rfl rfl rfl
 ·have hbp : 0 < nv b.l := Nat.pos_of_ne_zero h0
  rw [RI.den,if_neg h0,pK a b h0]
  have hg := wV (aG a.l) (aG b.l) (by omega) (by omega) hAt hBt
  rw [hAn,hBn] at hg
  have hgp : 0 < Nat.gcd (nv a.l) (nv b.l) := Nat.gcd_pos_of_pos_right _ hbp
  have hgl : Nat.gcd (nv a.l) (nv b.l) ≤ nv b.l := Nat.gcd_le_right _ hbp
  have hgs : (ak (Nat.gcd (nv a.l) (nv b.l))).length ≤ 90000000 := by
   have := fC (L := b.l) hgl;omega
  generalize Nat.gcd (nv a.l) (nv b.l) = g at *
  have d1 := jQ (aG a.l) (ak g) (by omega) (by omega) (by rw [aC];omega)
  have d2 := jQ (aG b.l) (ak g) (by omega) (by omega) (by rw [aC];omega)
  rw [Bm,aC,hAn] at d1
  rw [Bm,aC,hBn] at d2
  have m1 := db (a.neg != b.neg) (ak (nv a.l / g)) (by have := fC (L := a.l) (Nat.div_le_self (nv a.l) g);omega) (a_ _)
  have m2 := db false (ak (nv b.l / g)) (by have := fC (L := b.l) (Nat.div_le_self (nv b.l) g);omega) (a_ _)
  rw [aC] at m1 m2
  have hbl : ¬ ((aG b.l).length = 0) := fun h => h0 (hb0.1 h)
  have hbm : ((aG b.l).map eD).length = (aG b.l).length := by simp
  generalize bL (c6 (a.neg != b.neg) (nv a.l / g)) = X at *
  generalize bL (c6 false (nv b.l / g)) = Y at *
  generalize ak (nv a.l / g) = A2 at *
  generalize ak (nv b.l / g) = B2 at *
  generalize ak (nv a.l % g) = A3 at *
  generalize ak (nv b.l % g) = B3 at *
  generalize ak g = G at *
  generalize aG a.l = A at *
  generalize aG b.l = B at *
  obtain ⟨an,al⟩ := a
  obtain ⟨bn,bl⟩ := b
  simp only at *
  refine Ret.of_pwp layOk mixed Go.Proofs.Tryz.func88 rfl (by decide) rfl rfl ?_
  repeat refine aa rfl ?_
  refine ah 8 [12,13,14,15,16,17,5,6] (by decide +kernel) ?_
  repeat refine aa rfl ?_
  refine ap rfl rfl rfl hta rfl rfl ?_
  repeat refine aa rfl ?_
  refine ap rfl rfl rfl htb rfl rfl ?_
  repeat refine aa rfl ?_
  refine ab rfl ?_ ?_<;>intro h
  ·exact absurd (by have := of_decide_eq_true h;omega) hbl
  clear h
  repeat refine aa rfl ?_
  refine ap rfl rfl rfl hg rfl rfl ?_
  repeat refine aa rfl ?_
  refine ap rfl rfl rfl d1 rfl rfl ?_
  repeat refine aa rfl ?_
  refine ap rfl rfl rfl d2 rfl rfl ?_
  repeat refine aa rfl ?_
  refine ap rfl rfl rfl m1 rfl rfl ?_
  repeat refine aa rfl ?_
  refine ap rfl rfl rfl m2 rfl rfl ?_
  repeat refine aa rfl ?_
  exact aK rfl rfl rfl
theorem jP (x : RR) (hn : x.n.l.length ≤ 90000000) (hd : x.d.l.length ≤ 90000000) : Ret Tryz.prog .shared 87 [.agg (eR x)] (.agg (eR (ofQ x.val))) := by
 have h := lY x.n x.d hn hd
 rw [show (x.n.val : Rat) / (x.d.den : Rat) = x.val from rfl] at h
 generalize ofQ x.val = X at *
 refine Ret.of_pwp layOk mixed Go.Proofs.Tryz.func87 rfl (by decide) rfl rfl ?_
 repeat refine aa rfl ?_
 refine ap rfl rfl rfl h rfl rfl ?_
 repeat refine aa rfl ?_
 exact aK rfl rfl rfl
theorem lK (q : Rat) : (ofQ q).n.val = q.num := bS _
theorem ig (q : Rat) : (ofQ q).d.val = (q.den : Int) := by rw [kC];exact bS _
theorem t8 (x : RR) {p : Rat} {n : Nat} [hx : Vq x p n] (hn : n ≤ 50000000) : Ret Tryz.prog .shared 91 [.agg (eR x)] (.agg (eR (ofQ (-p)))) := by
 have h1 := hx.sz
 have hh := hx.hq
 have hl := eO hh.ok
 have hnm := jP x (by omega) (by omega)
 rw [hx.val] at hnm
 have hng := wX (ofQ p).n (by omega)
 rw [lK] at hng
 have e : ofQ (-p) = ⟨bL (-p.num),(ofQ p).d⟩ := by rw [kC,kC];simp
 rw [e]
 generalize bL (-p.num) = Z at *
 generalize ofQ p = P at *
 refine Ret.of_pwp layOk mixed Go.Proofs.Tryz.func91 rfl (by decide) rfl rfl ?_
 repeat refine aa rfl ?_
 refine ap rfl rfl rfl hnm rfl rfl ?_
 repeat refine aa rfl ?_
 refine ah 6 [6,7,8,9,10,11] (by decide +kernel) ?_
 repeat refine aa rfl ?_
 refine ap rfl rfl rfl hng rfl rfl ?_
 repeat refine aa rfl ?_
 exact aK rfl rfl rfl
theorem tk {a : RI} (h : nv a.l ≠ 0) : a.den = a.val := by rw [RI.den,if_neg h]
set_option maxRecDepth 20000 in
theorem tW (x y : RR) {p q : Rat} {n m : Nat} [hx : Vq x p n] [hy : Vq y q m] (hn : n ≤ 20000000) (hm : m ≤ 20000000) : Ret Tryz.prog .shared 26 [.agg (eR x),.agg (eR y)] (.agg (eR (ofQ (p + q)))) := by
 have h1 := hx.sz
 have h2 := hy.sz
 have l1 := eO hx.hq.ok
 have l2 := eO hy.hq.ok
 have n1 := jP x (by omega) (by omega)
 have n2 := jP y (by omega) (by omega)
 rw [hx.val] at n1
 rw [hy.val] at n2
 have m1 := lX (ofQ p).n (ofQ q).d (by omega) (by omega)
 have m2 := lX (ofQ q).n (ofQ p).d (by omega) (by omega)
 have m4 := lX (ofQ p).d (ofQ q).d (by omega) (by omega)
 have k1 := co (ofQ p).n (ofQ q).d
 have k2 := co (ofQ q).n (ofQ p).d
 have k4 := co (ofQ p).d (ofQ q).d
 have m5 := wP (bL ((ofQ p).n.val * (ofQ q).d.val)) (bL ((ofQ q).n.val * (ofQ p).d.val)) (by omega) (by omega)
 have k5 := pN (bL ((ofQ p).n.val * (ofQ q).d.val)) (bL ((ofQ q).n.val * (ofQ p).d.val)) (n := 50000000) (by omega) (by omega)
 rw [bS,bS] at m5 k5
 have m3 := lY (bL ((ofQ p).n.val * (ofQ q).d.val + (ofQ q).n.val * (ofQ p).d.val)) (bL ((ofQ p).d.val * (ofQ q).d.val)) (by omega) (by omega)
 have hne : nv (bL ((ofQ p).d.val * (ofQ q).d.val)).l ≠ 0 := by
  rw [m0,aC,ig,ig,Int.natAbs_mul]
  have := Nat.mul_pos p.den_pos q.den_pos
  simp only [Int.natAbs_natCast];omega
 rw [tk hne,bS,bS,lK,lK,ig,ig,← oy _ _ _ _ (bW p) (bW q),← fA,← fA] at m3
 rw [lK,ig] at m1
 rw [lK,ig] at m2
 rw [ig,ig] at m4
 rw [lK,lK,ig,ig] at m5
 generalize bL (p.num * (q.den : Int) + q.num * (p.den : Int)) = Z5 at *
 generalize bL (p.num * (q.den : Int)) = Z1 at *
 generalize bL (q.num * (p.den : Int)) = Z2 at *
 generalize bL ((p.den : Int) * (q.den : Int)) = Z4 at *
 generalize ofQ (p + q) = R at *
 generalize ofQ p = P at *
 generalize ofQ q = Q at *
 refine Ret.of_pwp layOk mixed Go.Proofs.Tryz.func26 rfl (by decide) rfl rfl ?_
 repeat refine aa rfl ?_
 refine bj 4 2 [7,8,9,10,5,6] [] (by decide +kernel) rfl ?_
 repeat refine aa rfl ?_
 refine ap rfl rfl rfl n1 rfl rfl ?_
 repeat refine aa rfl ?_
 refine ap rfl rfl rfl n2 rfl rfl ?_
 repeat refine aa rfl ?_
 refine ah 17 [11,12,13,14,15,16,17,18,19,20,21,22,23,24,25,26,27] (by decide +kernel) ?_
 repeat refine aa rfl ?_
 refine ap rfl rfl rfl m1 rfl rfl ?_
 repeat refine aa rfl ?_
 refine ap rfl rfl rfl m2 rfl rfl ?_
 repeat refine aa rfl ?_
 refine ap rfl rfl rfl m5 rfl rfl ?_
 repeat refine aa rfl ?_
 refine ap rfl rfl rfl m4 rfl rfl ?_
 repeat refine aa rfl ?_
 refine ap rfl rfl rfl m3 rfl rfl ?_
 repeat refine aa rfl ?_
 exact aK rfl rfl rfl
theorem ud (x y : RR) {p q : Rat} {n m : Nat} [hx : Vq x p n] [hy : Vq y q m] (hn : n ≤ 10000000) (hm : m ≤ 10000000) : Ret Tryz.prog .shared 28 [.agg (eR x),.agg (eR y)] (.agg (eR (ofQ (p - q)))) := by
 have h1 := t8 y (by omega)
 have vn : Vq (ofQ (-q)) (-q) (m + 1) := Vq.ofQ (h := @HQ.neg _ _ hy.hq)
 have h2 := tW x (ofQ (-q)) (hy := vn) (by omega) (by omega)
 rw [← Rat.sub_eq_add_neg] at h2
 generalize ofQ (-q) = Y at *
 generalize ofQ (p - q) = X at *
 refine Ret.of_pwp layOk mixed Go.Proofs.Tryz.func28 rfl (by decide) rfl rfl ?_
 repeat refine aa rfl ?_
 refine ah 4 [5,6,7,8] (by decide +kernel) ?_
 repeat refine aa rfl ?_
 refine ap rfl rfl rfl h1 rfl rfl ?_
 repeat refine aa rfl ?_
 refine ap rfl rfl rfl h2 rfl rfl ?_
 repeat refine aa rfl ?_
 exact aK rfl rfl rfl
end Go.Pv
