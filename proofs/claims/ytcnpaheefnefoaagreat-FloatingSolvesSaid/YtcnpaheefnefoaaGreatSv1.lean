/- Texts of one hand, gathered: FvC, FvD, FsF, FsG, FsH, FsJ, FsK, FsL, FvH, PvFz, FuE, FuF, FuI, FuJ, FuK, FuL, FsI, FtB, FtC, FuA, FvI, FvJ, FvK, FvL, FvM, FvN, FsO, FsP, FmJ, FsQ, FsR, FvO, FtA, FvP. -/
import Derived.Test.YtcnpaheefnefoaaGreatBa5
import Derived.WalkKit
import Derived.Deep.LoopGhost
import Derived.Deep.RegionLaw
import Derived.Lib.Walk
import Derived.Sort.WalkB12
import Derived.Lib.SliceRun
set_option linter.unusedSectionVars false
set_option linter.unusedSimpArgs false
set_option linter.unusedVariables false
set_option linter.unnecessarySimpa false
namespace Go.Pv
theorem rq {α:Type} (g:α→Rat):∀(l:List α),l≠[]→∃x∈l,∀y∈l,g x≤g y
 |[],h=>absurd rfl h
 |[x],_=>⟨x,by simp,fun y hy=>by simp at hy;subst hy;exact Rat.le_refl⟩
 |x::z::l,_=>by
  obtain⟨m,hm,h⟩:=rq g (z::l) (by simp)
  rcases Rat.le_total (a:=g x) (b:=g m) with c|c
  ·refine⟨x,by simp,fun y hy=>?_⟩
   rcases List.mem_cons.1 hy with rfl|hy
   ·exact Rat.le_refl
   ·exact Rat.le_trans c (h y hy)
  ·refine⟨m,List.mem_cons_of_mem _ hm,fun y hy=>?_⟩
   rcases List.mem_cons.1 hy with rfl|hy
   ·exact c
   ·exact h y hy
theorem CG {x y:Rat} (h0:0≤x) (h:x<y):x*x<y*y:=by
 have h1:=Rat.mul_le_mul_of_nonneg_left (Rat.le_of_lt h) h0
 have h2:=Rat.mul_lt_mul_of_pos_right h (show 0<y by grind)
 grind
namespace Bd
variable {b:Bd}
theorem Al {p:Nat→Nat} {z t:Rat} (u v:Rat) (hp:b.Inc p z t) :
  (∃s i k,i<b.N∧k<b.n i∧u+v*b.X i≠0∧b.y (z+s*u) (t+s*v) i=b.S i k∧b.Inc p (z+s*u) (t+s*v)) ∨
  ((∀i,i<b.N→u+v*b.X i≠0→b.n i=0)∧∀s,b.Inc p (z+s*u) (t+s*v)):=by
 let L:List (Nat × Nat):=((List.range b.N).flatMap fun i=>(List.range (b.n i)).map fun k=>(i,k)).filter fun q=>decide (u+v*b.X q.1≠0)
 have hL:∀q,q∈L↔q.1<b.N∧q.2<b.n q.1∧u+v*b.X q.1≠0:=by
  intro q
  obtain⟨i,k⟩:=q
  simp only[L,List.mem_filter,List.mem_flatMap,List.mem_range,List.mem_map,Prod.mk.injEq,decide_eq_true_iff]
  constructor
  ·rintro⟨⟨i',h1,k',h2,rfl,rfl⟩,h3⟩;exact⟨h1,h2,h3⟩
  ·rintro⟨h1,h2,h3⟩;exact⟨⟨i,h1,k,h2,rfl,rfl⟩,h3⟩
 by_cases he:L=[]
 ·refine .inr ⟨fun i hi hd=>?_,fun s i hi=>?_⟩
  ·rcases Nat.eq_zero_or_pos (b.n i) with h|h
   ·exact h
   ·have:=(hL (i,0)).2 ⟨hi,h,hd⟩
    rw[he]at this;cases this
  ·have hi0:=hp i hi
   rw[show b.y (z+s*u) (t+s*v) i=b.y z t i+s*(u+v*b.X i) from nR ..]
   by_cases hd:u+v*b.X i=0
   ·rw[hd,Rat.mul_zero,Rat.add_zero];exact hi0
   ·have h0:b.n i=0:=by
     rcases Nat.eq_zero_or_pos (b.n i) with h|h
     ·exact h
     ·have:=(hL (i,0)).2 ⟨hi,h,hd⟩
      rw[he]at this;cases this
    have:=hi0.1
    exact⟨this,fun k hk=>by omega,fun hk=>by omega⟩
 ·obtain⟨⟨i0,k0⟩,hm,hmin⟩:=rq (fun q:Nat × Nat=>(b.S q.1 q.2-b.y z t q.1)/(u+v*b.X q.1)*((b.S q.1 q.2-b.y z t q.1)/(u+v*b.X q.1))) L he
  obtain⟨h1,h2,h3⟩:=(hL _).1 hm
  simp only at h1 h2 h3 hmin
  refine .inl ⟨(b.S i0 k0-b.y z t i0)/(u+v*b.X i0),i0,k0,h1,h2,h3,?_,fun i hi=>?_⟩
  ·rw[nR,Rat.div_mul_cancel h3];grind
  ·have hi0:=hp i hi
   rw[nR]
   generalize (b.S i0 k0-b.y z t i0)/(u+v*b.X i0)=s at *
   by_cases hd:u+v*b.X i=0
   ·rw[hd,Rat.mul_zero,Rat.add_zero];exact hi0
   ·have key:∀k,k<b.n i→s*(u+v*b.X i)*(s*(u+v*b.X i))≤(b.S i k-b.y z t i)*(b.S i k-b.y z t i):=fun k hk=>by
     have h4:=hmin (i,k) ((hL (i,k)).2 ⟨hi,hk,hd⟩)
     simp only at h4
     have h5:(b.S i k-b.y z t i)=(b.S i k-b.y z t i)/(u+v*b.X i)*(u+v*b.X i):=(Rat.div_mul_cancel hd).symm
     rw[h5]
     generalize (b.S i k-b.y z t i)/(u+v*b.X i)=r at *
     generalize u+v*b.X i=d at *
     have h6:0≤d*d:=by rcases Rat.le_total (a:=0) (b:=d) with c|c
                       ·exact Rat.mul_nonneg c c
                       ·have:=Rat.mul_nonneg (show 0 ≤ -d by grind) (show 0 ≤ -d by grind);grind
     have h7:=Rat.mul_le_mul_of_nonneg_right h4 h6
     grind
    generalize s*(u+v*b.X i)=e at *
    refine⟨hi0.1,fun k hk=>?_,fun hk=>?_⟩
    ·have g1:=hi0.2.1 k hk
     have g2:=key k (by have:=hi0.1;omega)
     rcases Rat.le_total (a:=b.S i k) (b:=b.y z t i+e) with c|c
     ·exact c
     ·rcases Rat.le_total (a:=b.y z t i+e) (b:=b.S i k) with c2|c2
      ·by_cases hq:b.S i k=b.y z t i+e
       ·rw[hq];exact Rat.le_refl
       ·have:=CG (show 0≤b.y z t i-b.S i k by grind) (show b.y z t i-b.S i k < -e by grind)
        exfalso;grind
      ·exact c2
    ·have g1:=hi0.2.2 hk
     have g2:=key (p i) hk
     by_cases hq:b.y z t i+e≤b.S i (p i)
     ·exact hq
     ·have:=CG (show 0≤b.S i (p i)-b.y z t i by grind) (show b.S i (p i)-b.y z t i<e by grind)
      exfalso;grind
structure Ln where
 s:Rat
 t:Rat
 v:Rat
def Ln.on (l:Ln) (z t:Rat):Prop:=l.s*z+l.t*t=l.v
def cross (a c:Ln):Option (Rat × Rat):=if a.s*c.t-a.t*c.s=0 then none else some ((a.v*c.t-a.t*c.v)/(a.s*c.t-a.t*c.s),(a.s*c.v-a.v*c.s)/(a.s*c.t-a.t*c.s))
theorem cross_at {a c:Ln} {z t:Rat} (h1:a.on z t) (h2:c.on z t) (hd:a.s*c.t-a.t*c.s≠0):cross a c=some (z,t):=by
 rw[cross,if_neg hd]
 rw[Ln.on]at h1 h2
 rw[←h1,←h2]
 generalize a.s=p at *
 generalize a.t=q at *
 generalize c.s=p' at *
 generalize c.t=q' at *
 have e1:((p*z+q*t)*q'-q*(p'*z+q'*t))/(p*q'-q*p')=z:=by grind
 have e2:(p*(p'*z+q'*t)-(p*z+q*t)*p')/(p*q'-q*p')=t:=by grind
 rw[e1,e2]
def corner (b:Bd) (i k:Nat):Ln:=⟨1,b.X i,b.S i k-b.C i⟩
def flat:Ln:=⟨0,1,0⟩
def force (b:Bd) (p:Nat→Nat):Ln:=⟨b.Kh p,b.Kc p,b.w-b.Fo p⟩
def moment (b:Bd) (p:Nat→Nat):Ln:=⟨b.Kc p,b.Kp p,b.w*b.A-b.Go p⟩
theorem iT {z t:Rat} {i k:Nat} (h:b.y z t i=b.S i k):(b.corner i k).on z t:=by
 rw[Ln.on,corner]
 rw[y]at h
 simp only
 grind
theorem nb (h:b.Ok) {p:Nat→Nat} {z t:Rat} (hp:b.Inc p z t) (hb:b.Bal z t):(b.force p).on z t:=by
 have:=F_at h hp
 rw[hb.1]at this
 rw[Ln.on,force]
 simp only
 grind
theorem wD (h:b.Ok) {p:Nat→Nat} {z t:Rat} (hp:b.Inc p z t) (hb:b.Bal z t):(b.moment p).on z t:=by
 have:=G_at h hp
 rw[hb.2]at this
 rw[Ln.on,moment]
 simp only
 grind
theorem uU (h:b.Ok) {p:Nat→Nat} {z t z' t':Rat} (hp:b.Inc p z t) (hp':b.Inc p z' t') (hb:b.Bal z t) (h1:b.Kh p*z+b.Kc p*t=b.Kh p*z'+b.Kc p*t') (h2:b.Kc p*z+b.Kp p*t=b.Kc p*z'+b.Kp p*t'):b.Bal z' t':=by
 have e1:=F_at h hp
 have e2:=G_at h hp
 rw[hb.1]at e1
 rw[hb.2]at e2
 exact⟨by rw[F_at h hp'];grind,by rw[G_at h hp'];grind⟩
inductive Found (b:Bd):Prop where
 |both (p:Nat→Nat) (a:Rat × Rat) (hp:∀i,i<b.N→p i≤b.n i) (h:cross (b.force p) (b.moment p)=some a) (hb:b.Bal a.1 a.2)
 |corner (p:Nat→Nat) (a:Rat × Rat) (hp:∀i,i<b.N→p i≤b.n i) (h0:cross (b.force p) (b.moment p)=none) (i k:Nat) (hi:i<b.N) (hk:k<b.n i) (h:cross (b.force p) (b.corner i k)=some a) (hb:b.Bal a.1 a.2)
 |flat (p:Nat→Nat) (a:Rat × Rat) (hp:∀i,i<b.N→p i≤b.n i) (h0:cross (b.force p) (b.moment p)=none) (h:cross (b.force p) Bd.flat=some a) (hb:b.Bal a.1 a.2)
 |two (a:Rat × Rat) (i k j l:Nat) (hi:i<b.N) (hk:k<b.n i) (hj:j<b.N) (hl:l<b.n j) (hn:b.X i≠b.X j) (h:(b.corner i k).on a.1 a.2) (h':(b.corner j l).on a.1 a.2) (hb:b.Bal a.1 a.2)
 |one (a:Rat × Rat) (i k:Nat) (hi:i<b.N) (hk:k<b.n i) (h:(b.corner i k).on a.1 a.2) (h':Bd.flat.on a.1 a.2) (hb:b.Bal a.1 a.2)
theorem found (h:b.Ok) (hw:b.w≠0) {z t:Rat} (hb:b.Bal z t):Found b:=by
 obtain⟨p,hp⟩:=pO h z t
 have hp:=hp.c
 have hle:∀i,i<b.N→p i≤b.n i:=fun i hi=>(hp i hi).1
 by_cases hdet:b.Kh p*b.Kp p-b.Kc p*b.Kc p=0
 rotate_left
 ·exact .both p (z,t) hle (cross_at (nb h hp hb) (wD h hp hb) hdet) hb
 have hnone:cross (b.force p) (b.moment p)=none:=by rw[cross];exact if_pos hdet
 by_cases hK:b.Kh p=0
 ·have hk0:∀i,i<b.N→b.k p i=0:=fun i hi=>by
   have h1:=fy (fun j hj=>y2 h hp hj) hi
   rw[show ac (b.k p) b.N=0 from hK]at h1
   have:=y2 h hp hi
   grind
  have hc0:b.Kc p=0:=gx fun i hi=>by rw[hk0 i hi];grind
  have hp0:b.Kp p=0:=gx fun i hi=>by rw[hk0 i hi];grind
  have hsame:∀ {z' t'},b.Inc p z' t'→b.Bal z' t':=fun hp'=>uU h hp hp' hb (by rw[hK,hc0];grind) (by rw[hp0,hc0];grind)
  rcases Al 1 0 hp with⟨s,i,k,hi,hk,-,hy,hp'⟩|⟨hn,-⟩
  ·rcases Al (-b.X i) 1 hp' with⟨s2,j,l,hj,hl,hd,hy2,hp2⟩|⟨-,hall⟩
   ·have hyi:b.y (z+s*1+s2 * -b.X i) (t+s*0+s2*1) i=b.S i k:=by
     rw[nR,hy];grind
    exact .two (_,_) i k j l hi hk hj hl (fun e=>hd (by rw[e];grind)) (iT hyi) (iT hy2) (hsame hp2)
   ·have hp2:=hall (-t)
    have hyi:b.y (z+s*1 + -t * -b.X i) (t+s*0 + -t*1) i=b.S i k:=by
     have e:b.y (z+s*1 + -t * -b.X i) (t+s*0 + -t*1) i=b.y (z+s*1) (t+s*0) i:=by rw[y,y];grind
     rw[e,hy]
    exact .one (_,_) i k hi hk (iT hyi) (by rw[Ln.on,flat];simp only;grind) (hsame hp2)
  ·exfalso
   apply hw
   rw[←hb.1]
   refine gx fun i hi=>?_
   have h0:=hn i hi (by grind)
   show b7 (b.n i) (b.S i) (b.M i) _=0
   rw[h0];rfl
 ·have hdir:∀ {s:Rat},b.Inc p (z+s * -(b.Kc p/b.Kh p)) (t+s*1)→b.Bal (z+s * -(b.Kc p/b.Kh p)) (t+s*1):=fun hp'=>uU h hp hp' hb (by
    generalize b.Kp p=kp at *
    generalize b.Kc p=kc at *
    generalize b.Kh p=kh at *
    grind) (by
    generalize b.Kp p=kp at *
    generalize b.Kc p=kc at *
    generalize b.Kh p=kh at *
    grind)
  rcases Al (-(b.Kc p/b.Kh p)) 1 hp with⟨s,i,k,hi,hk,hd,hy,hp'⟩|⟨-,hall⟩
  ·have hb':=hdir hp'
   refine .corner p (_,_) hle hnone i k hi hk (cross_at (nb h hp' hb') (iT hy) ?_) hb'
   show b.Kh p*b.X i-b.Kc p*1≠0
   intro e
   apply hd
   generalize b.Kc p=kc at *
   generalize b.Kh p=kh at *
   grind
  ·have hp':=hall (-t)
   have hb':=hdir hp'
   refine .flat p (_,_) hle hnone (cross_at (nb h hp' hb') (show flat.on _ _ by rw[Ln.on,flat];simp only;grind) ?_) hb'
   show b.Kh p*1-b.Kc p*0≠0
   grind
end Bd
def c6:List Nat→Nat→List Nat
 |[],_=>[]
 |n::ns,k=>k%(n+1)::c6 ns (k/(n+1))
def bS:List Nat→Nat
 |[]=>1
 |n::ns=>(n+1)*bS ns
def gZ:List Nat→List Nat→Bool × List Nat
 |n::ns,p::ps=>if p<n then(true,(p+1)::ps) else((gZ ns ps).1,0::(gZ ns ps).2)
 |_,ps=>(false,ps)
theorem rO:∀(ns:List Nat) (k:Nat),(c6 ns k).length=ns.length
 |[],_=>rfl
 |n::ns,k=>by rw[c6,List.length_cons,List.length_cons,rO ns]
theorem oI:∀(ns:List Nat),c6 ns 0=List.replicate ns.length 0
 |[]=>rfl
 |n::ns=>by rw[c6,Nat.zero_mod,Nat.zero_div,oI ns];rfl
theorem oM:∀(ns:List Nat),0<bS ns
 |[]=>Nat.one_pos
 |n::ns=>Nat.mul_pos (Nat.succ_pos n) (oM ns)
theorem oC:∀(ns:List Nat) (k:Nat),k<bS ns→gZ ns (c6 ns k)=if k+1<bS ns then(true,c6 ns (k+1)) else(false,c6 ns 0)
 |[],k,h=>by
  rw[bS]at h
  rw[if_neg (by rw[bS];omega)];rfl
 |n::ns,k,h=>by
  rw[bS]at h
  have hq:k/(n+1)<bS ns:=Nat.div_lt_of_lt_mul h
  have hr:k%(n+1)<n+1:=Nat.mod_lt _ (Nat.succ_pos n)
  have hk:=Nat.div_add_mod k (n+1)
  rw[c6,gZ,bS]
  by_cases h1:k%(n+1)<n
  ·rw[if_pos h1]
   have e1:(k+1)/(n+1)=k/(n+1):=by
    have:k+1=(k%(n+1)+1)+(n+1)*(k/(n+1)):=by omega
    generalize k/(n+1)=q at *;rw[this,Nat.add_mul_div_left _ _ (Nat.succ_pos n),Nat.div_eq_of_lt (by omega),Nat.zero_add]
   have e2:(k+1)%(n+1)=k%(n+1)+1:=by
    have:k+1=(k%(n+1)+1)+(n+1)*(k/(n+1)):=by omega
    generalize k/(n+1)=q at *;rw[this,Nat.add_mul_mod_self_left,Nat.mod_eq_of_lt (by omega)]
   have h2:k+1<(n+1)*bS ns:=by
    rcases Nat.lt_or_ge (k+1) ((n+1)*bS ns) with c|c
    ·exact c
    ·exfalso
     have e3:k+1=(n+1)*bS ns:=by omega
     rw[e3,Nat.mul_mod_right]at e2
     omega
   rw[if_pos h2,c6,e1,e2]
  ·rw[if_neg h1,oC ns _ hq]
   have hrn:k%(n+1)=n:=by omega
   have hs:(n+1)*(k/(n+1)+1)=(n+1)*(k/(n+1))+(n+1):=Nat.mul_succ _ _
   have e3:k+1=(n+1)*(k/(n+1)+1):=by omega
   have e1:(k+1)/(n+1)=k/(n+1)+1:=by generalize k/(n+1)=q at *;rw[e3,Nat.mul_div_cancel_left _ (Nat.succ_pos n)]
   have e2:(k+1)%(n+1)=0:=by rw[e3,Nat.mul_mod_right]
   by_cases h2:k/(n+1)+1<bS ns
   ·have h3:k+1<(n+1)*bS ns:=by rw[e3];exact Nat.mul_lt_mul_of_pos_left h2 (Nat.succ_pos n)
    rw[if_pos h2,if_pos h3,c6,e1,e2]
   ·have h3:¬k+1<(n+1)*bS ns:=by
     rw[e3]
     exact Nat.not_lt.2 (Nat.mul_le_mul_left _ (by omega))
    rw[if_neg h2,if_neg h3,c6,Nat.zero_mod,Nat.zero_div]
theorem rN:∀(ns ps:List Nat),ps.length=ns.length→(∀i,i<ns.length→ps.getD i 0≤ns.getD i 0)→∃k,k<bS ns∧c6 ns k=ps
 |[],[],_,_=>⟨0,Nat.one_pos,rfl⟩
 |[],_::_,h,_=>by cases h
 |_::_,[],h,_=>by cases h
 |n::ns,p::ps,hl,h=>by
  obtain⟨k,hk,e⟩:=rN ns ps (by simpa using hl) fun i hi=>by simpa using h (i+1) (by simp;omega)
  have hp:p≤n:=h 0 (by simp)
  refine⟨p+(n+1)*k,?_,?_⟩
  ·rw[bS]
   have h1:(n+1)*(k+1)≤(n+1)*bS ns:=Nat.mul_le_mul_left _ hk
   rw[Nat.mul_succ]at h1
   omega
  ·rw[c6,Nat.add_mul_mod_self_left,Nat.mod_eq_of_lt (by omega),Nat.add_mul_div_left _ _ (Nat.succ_pos n),Nat.div_eq_of_lt (by omega),Nat.zero_add,e]
theorem uM:∀(ns:List Nat) (k i:Nat),i<ns.length→(c6 ns k).getD i 0≤ns.getD i 0
 |n::ns,k,0,_=>by
  rw[c6,List.getD_cons_zero,List.getD_cons_zero]
  exact Nat.le_of_lt_succ (Nat.mod_lt k (Nat.succ_pos n))
 |n::ns,k,i+1,h=>by
  rw[c6,List.getD_cons_succ,List.getD_cons_succ]
  exact uM ns _ i (by simpa using h)
theorem oB:∀(ns ps:List Nat) (i:Nat),ps.length=ns.length→(∀j,j<i→¬ps.getD j 0<ns.getD j 0)→i<ns.length→ps.getD i 0<ns.getD i 0→gZ ns ps=(true,List.replicate i 0++(ps.getD i 0+1)::ps.drop (i+1))
 |[],_,_,_,_,h,_=>by cases h
 |n::ns,[],_,h,_,_,_=>by cases h
 |n::ns,p::ps,0,hl,_,_,h=>by
  rw[gZ,if_pos (show p<n from h)];rfl
 |n::ns,p::ps,i+1,hl,h0,hi,h=>by
  have h1:¬p<n:=h0 0 (by omega)
  rw[gZ,if_neg h1,oB ns ps i (by simpa using hl) (fun j hj=>h0 (j+1) (by omega)) (by simpa using hi) h]
  rfl
theorem rB:∀(ns ps:List Nat),ps.length=ns.length→(∀j,j<ns.length→¬ps.getD j 0<ns.getD j 0)→gZ ns ps=(false,List.replicate ns.length 0)
 |[],[],_,_=>rfl
 |[],_::_,h,_=>by cases h
 |n::ns,[],h,_=>by cases h
 |n::ns,p::ps,hl,h0=>by
  have h1:¬p<n:=h0 0 (by simp)
  rw[gZ,if_neg h1,rB ns ps (by simpa using hl) (fun j hj=>h0 (j+1) (by simp;omega))]
  rfl
set_option maxHeartbeats 2000000
attribute [local irreducible] PWP POps PQuiet PSem ax ao aj ai
open Go.Proofs
theorem c7 (x y:RR) {p q:Rat} {n m:Nat} [hx:Vq x p n] [hy:Vq y q m] (hn:n≤20000000) (hm:m≤20000000):Ret Tryz.prog .shared 77 [.agg (eR x),.agg (eR y)] (.agg (eR (ofQ (p+q)))):=by
 have h:=oO x y hn hm
 generalize ofQ (p+q)=X at *
 refine Ret.of_pwp layOk mixed Go.Proofs.Tryz.func77 rfl (by decide) rfl rfl ?_
 repeat refine aa rfl ?_
 refine ak rfl rfl rfl h rfl rfl ?_
 repeat refine aa rfl ?_
 exact aF rfl rfl rfl
theorem cd (x y:RR) {p q:Rat} {n m:Nat} [hx:Vq x p n] [hy:Vq y q m] (hn:n≤20000000) (hm:m≤20000000):Ret Tryz.prog .shared 78 [.agg (eR x),.agg (eR y)] (.agg (eR (ofQ (p*q)))):=by
 have h:=wT x y hn hm
 generalize ofQ (p*q)=X at *
 refine Ret.of_pwp layOk mixed Go.Proofs.Tryz.func78 rfl (by decide) rfl rfl ?_
 repeat refine aa rfl ?_
 refine ak rfl rfl rfl h rfl rfl ?_
 repeat refine aa rfl ?_
 exact aF rfl rfl rfl
theorem iu (x y:RR) {p q:Rat} {n m:Nat} [hx:Vq x p n] [hy:Vq y q m] (hn:n≤10000000) (hm:m≤10000000):Ret Tryz.prog .shared 166 [.agg (eR x),.agg (eR y)] (.agg (eR (ofQ (p-q)))):=by
 have h:=oX x y hn hm
 generalize ofQ (p-q)=X at *
 refine Ret.of_pwp layOk mixed Go.Proofs.Tryz.func166 rfl (by decide) rfl rfl ?_
 repeat refine aa rfl ?_
 refine ak rfl rfl rfl h rfl rfl ?_
 repeat refine aa rfl ?_
 exact aF rfl rfl rfl
theorem yh (x y:RR) {p q:Rat} {n m:Nat} [hx:Vq x p n] [hy:Vq y q m] (hn:n≤20000000) (hm:m≤20000000) (h0:q≠0):Ret Tryz.prog .shared 169 [.agg (eR x),.agg (eR y)] (.agg (eR (ofQ (p/q)))):=by
 have h:=wY x y hn hm h0
 generalize ofQ (p/q)=X at *
 refine Ret.of_pwp layOk mixed Go.Proofs.Tryz.func169 rfl (by decide) rfl rfl ?_
 repeat refine aa rfl ?_
 refine ak rfl rfl rfl h rfl rfl ?_
 repeat refine aa rfl ?_
 exact aF rfl rfl rfl
theorem fW:Ret Tryz.prog .shared 27 [I 0] (.agg (eR (ofQ 0))):=by
 have:=bk 0 ⟨by decide,by decide⟩
 rwa [show(((0:Int):Rat))=0 from rfl]at this
theorem jH (x:RR) {p:Rat} {n:Nat} [hx:Vq x p n] (hn:n≤8000000):Ret Tryz.prog .shared 112 [.agg (eR x)] (I (sgn p)):=by
 have h0:=fW
 have hc:=cS x (ofQ 0) (by omega) (by decide)
 rw[Rat.sub_eq_add_neg,Rat.neg_zero,Rat.add_zero]at hc
 generalize sgn p=g at *
 generalize ofQ 0=Z at *
 refine Ret.of_pwp layOk mixed Go.Proofs.Tryz.func112 rfl (by decide) rfl rfl ?_
 repeat refine aa rfl ?_
 refine ah 4 [3,4,5,2] (by decide +kernel) ?_
 repeat refine aa rfl ?_
 refine ak rfl rfl rfl h0 rfl rfl ?_
 repeat refine aa rfl ?_
 refine aP rfl rfl rfl hc rfl rfl rfl ?_
 repeat refine aa rfl ?_
 exact aO rfl rfl rfl
theorem rW (s:SR) (hs:s.Lim) (a:AR) {z t:Rat} {n m:Nat} [ha:Va a z t n m] (hn:n≤1000000) (hm:m≤1000000):Ret Tryz.prog .shared 26 [.agg (eS s),.agg (eA a)] (.agg (eR (ofQ (yQ s z t)))):=by
 have hx:Zb s.x:=aE hs.x.1 hs.x.2
 have hw:=bk s.x hs.x
 have e1:=c7 s.c a.z (hx:=hs.c.v) (hy:=ha.z) (by decide) (by omega)
 have v1:Vq (ofQ (s.c.val+z)) (s.c.val+z) (13+(n+1)+1):=Vq.ofQ (h:=@HQ.add _ _ 13 (n+1) hs.c.v.hq ha.z.hq)
 have e2:=cd a.t (ofQ (s.x:Rat)) (hx:=ha.t) (by omega) (by decide)
 have v2:Vq (ofQ (t*(s.x:Rat))) (t*(s.x:Rat)) (m+1+4):=Vq.ofQ (h:=@HQ.mul _ _ (m+1) 4 ha.t.hq HQ.int)
 have e3:=c7 (ofQ (s.c.val+z)) (ofQ (t*(s.x:Rat))) (hx:=v1) (hy:=v2) (by omega) (by omega)
 rw[show s.c.val+z+t*(s.x:Rat)=yQ s z t by rw[yQ];grind]at e3
 generalize ofQ (yQ s z t)=X at *
 generalize ofQ (s.c.val+z)=X1 at *
 generalize ofQ (t*(s.x:Rat))=X2 at *
 generalize ofQ (s.x:Rat)=X3 at *
 obtain⟨x,c,k⟩:=s
 obtain⟨az,at'⟩:=a
 simp only at *
 refine Ret.of_pwp layOk mixed Go.Proofs.Tryz.func26 rfl (by decide) rfl rfl ?_
 repeat refine aa rfl ?_
 refine ah 12 [5,6,7,8,9,10,11,12,13,14,15,16] (by decide +kernel) ?_
 repeat refine aa rfl ?_
 refine ak rfl rfl rfl e1 rfl rfl ?_
 repeat refine aa rfl ?_
 refine ak rfl rfl rfl hw rfl rfl ?_
 repeat refine aa rfl ?_
 refine ak rfl rfl rfl e2 rfl rfl ?_
 repeat refine aa rfl ?_
 refine ak rfl rfl rfl e3 rfl rfl ?_
 repeat refine aa rfl ?_
 exact aF rfl rfl rfl
theorem B0 {c:CR} (hc:c.Lim) (k:Nat):HQ (c.s k) 4:=by
 have h:=km hc k
 have z1:Zb (c.S.getD k 0):=aE h.1 h.2
 exact HQ.int
theorem Dq {c:CR} (hc:c.Lim) {p:Rat} {n N:Nat} (hp:HQ p n) (k:Nat):HQ (dU c.s N p k) (n+4):=by
 rw[dU]
 split
 ·rw[fe]
  split
  ·exact(B0 hc (k+1)).mono (by omega)
  ·exact hp.mono (by omega)
 ·exact hp.mono (by omega)
theorem DV {c:CR} (hc:c.Lim) {p:Rat} {n N:Nat} (hp:HQ p n) (k:Nat):HQ (dU c.s N p k-c.s k) (n+9):=(@HQ.sub _ _ _ _ (Dq hc hp k) (B0 hc k)).mono (by omega)
theorem Ez {c:CR} (hc:c.Lim) (k:Nat):HQ (c.m k) 13:=by
 rw[CR.m]
 by_cases hk:k<c.M.length
 ·exact((hc.m _ (List.mem_of_getElem? (aC (d:=RR.zero) hk))).v).hq
 ·rw[List.getD_eq_getElem?_getD,List.getElem?_eq_none (by omega)]
  show HQ RR.zero.val 13
  rw[RR.zero_val];exact HQ.zero.mono (by decide)
theorem Dl {x:Rat} {n:Nat} (h:HQ x n):HQ (cJ x) (n+4):=by
 rw[cJ];split
 ·exact h.mono (by omega)
 ·exact HQ.zero.mono (by omega)
theorem nf {c:CR} (hc:c.Lim) {p:Rat} {n N:Nat} (hp:HQ p n) (k:Nat):HQ (bR c.s c.m N p k) (n+30):=(@HQ.mul _ _ 13 (n+9+4) (Ez hc k) (Dl (DV hc hp k))).mono (by omega)
noncomputable def AI (c:CR) (y:RR) (p:Rat) (N i:Nat):RR:=@ite _ (i+1<N∧c.s (i+1)<p) (Classical.propDecidable _) (ofQ (c.s (i+1))) y
theorem Ep {c:CR} (hc:c.Lim) {y:RR} {p:Rat} {N i n:Nat} [hy:Vq y p n]:Vq (AI c y p N i) (dU c.s N p i) (n+8):=by
 rw[AI,dU]
 by_cases h1:i+1<N
 ·rw[if_pos h1,fe]
  by_cases h2:c.s (i+1)<p
  ·rw[if_pos ⟨h1,h2⟩,if_pos h2]
   exact kz (Vq.ofQ (h:=B0 hc (i+1))) (by omega)
  ·rw[if_neg (fun h=>h2 h.2),if_neg h2]
   exact kz hy (by omega)
 ·rw[if_neg (fun h=>h1 h.1),if_neg h1]
  exact kz hy (by omega)
set_option maxRecDepth 20000 in
theorem jD (c:CR) (hc:c.Lim) (h0:br c=0) (y:RR) {p:Rat} {n:Nat} [hy:Vq y p n] (hn:n≤100000):Ret Tryz.prog .shared 115 [.agg (eC c),.agg (eR y)] (.agg (eR (ofQ (b7 c.S.length c.s c.m p)))):=by
 obtain⟨h40,hSM,-,hasc⟩:=bP h0
 have w0:=fW
 have hph:=hy.hq
 rw[b7,d9 fun i hi=>hasc i hi]
 have hSm:(c.S.map eN).length=c.S.length:=by simp
 have hB:∀i,i≤40→i*(n+1+30+1)+4≤5000000:=fun i hi=>by have:=Nat.mul_le_mul hi (Nat.le_refl (n+1+30+1));omega
 have vs:∀i,Vq (ofQ (ac (bR c.s c.m c.S.length p) i)) (ac (bR c.s c.m c.S.length p) i) (i*(n+1+30+1)+4):=fun i=>Vq.ofQ (h:=aK i fun k _=>nf hc hph k)
 generalize hN:c.S.length=N at *
 refine Ret.of_pwp layOk mixed Go.Proofs.Tryz.func115 rfl (by decide) rfl rfl ?_
 repeat refine aa rfl ?_
 refine ak rfl rfl rfl w0 rfl rfl ?_
 repeat refine aa rfl ?_
 refine am (fun i:Nat=>i≤N) (fun i=>[(2,.ptr 2 1 0 0),(3,.ptr 3 1 0 0),(4,.ptr 4 1 0 0),(5,.ptr 5 1 0 0),(6,I (i:Nat))])
  (fun i=>[(2,1,⟨69,2,[eC c],2⟩),(3,1,⟨26,4,[eR y],2⟩),(4,1,⟨26,4,[zN],2⟩),(5,1,⟨26,4,[eR (ofQ (ac (bR c.s c.m N p) i))],2⟩)]) (fun i=>N-i) 0 (Nat.zero_le _) ⟨rfl,rfl,rfl,rfl,rfl,rfl,rfl,rfl,rfl,trivial⟩ ?_
 intro i s hi
 repeat refine aa rfl ?_
 refine ab rfl ?_ ?_<;>intro h
 ·have hlt:i<N:=by have:=of_decide_eq_true h;rw[hSm]at this;omega
  clear h
  have hx:=aC (l:=c.S) (i:=i) (d:=0) (by omega)
  have hmx:=aC (l:=c.M) (i:=i) (d:=RR.zero) (by omega)
  have hxi:=hc.s _ (List.mem_of_getElem? hx)
  have hmv:=(hc.m _ (List.mem_of_getElem? hmx)).v
  have hw:=bk _ hxi
  have hnx:IntKind.i64.wrap (((i:Nat):Int)+1)=((i+1:Nat):Int):=by rw[wrap_i64 (by omega) (by omega)];omega
  (repeat ((fail_if_success (with_reducible refine aT 5 ?_));refine dh rfl ?_))
  iterate 6 refine aa rfl ?_
  refine zH [(2,.ptr 2 1 0 0),(3,.ptr 3 1 0 0),(4,.ptr 4 1 0 0),(5,.ptr 5 1 0 0),(6,I (i:Nat)),(7,.ptr 7 ((s.own 7).1+1) 0 0)]
   [(2,1,⟨69,2,[eC c],2⟩),(3,1,⟨26,4,[eR y],2⟩),(4,1,⟨26,4,[zN],2⟩),(5,1,⟨26,4,[eR (ofQ (ac (bR c.s c.m N p) i))],2⟩),(7,(s.own 7).1+1,⟨26,4,[eR (AI c y p N i)],2⟩)] ?_ (fun s3=>?_)
  ·by_cases h1:i+1<N
   ·have hx1:=aC (l:=c.S) (i:=i+1) (d:=0) (by omega)
    have hw1:=bk _ (hc.s _ (List.mem_of_getElem? hx1))
    have zb1:Zb (c.S.getD (i+1) 0):=aE (hc.s _ (List.mem_of_getElem? hx1)).1 (hc.s _ (List.mem_of_getElem? hx1)).2
    have hc1:=cS y (ofQ ((c.S.getD (i+1) 0:Int):Rat)) (by omega) (by decide)
    have hg:=fw (p-((c.S.getD (i+1) 0:Int):Rat))
    have htp:AI c y p N i=if 0<sgn (p-((c.S.getD (i+1) 0:Int):Rat)) then ofQ ((c.S.getD (i+1) 0:Int):Rat) else y:=by
     rw[AI]
     by_cases hlt1:c.s (i+1)<p
     ·rw[if_pos ⟨h1,hlt1⟩,if_pos (hg.2 (by have:((c.S.getD (i+1) 0:Int):Rat)<p:=hlt1;grind))];rfl
     ·rw[if_neg (fun h=>hlt1 h.2),if_neg (fun h=>hlt1 (by have:=hg.1 h;show((c.S.getD (i+1) 0:Int):Rat)<p;grind))]
    rw[htp]
    clear hg htp
    generalize sgn (p-((c.S.getD (i+1) 0:Int):Rat))=sg at *
    generalize hW1:ofQ ((c.S.getD (i+1) 0:Int):Rat)=W1 at *
    generalize c.S.getD (i+1) 0=x1 at *
    repeat refine aa rfl ?_
    refine ah 18 [18,19,20,21,22,23,24,25,26,27,28,29,30,31,32,33,34,35] (by decide +kernel) ?_
    repeat refine aa rfl ?_
    rw[hnx]
    repeat refine aa rfl ?_
    refine dr rfl rfl rfl ?_ ?_<;>intro h
    ·clear h
     repeat refine aa rfl ?_
     rw[hnx]
     refine aZ rfl rfl rfl rfl rfl rfl rfl hx1 rfl ?_
     repeat refine aa rfl ?_
     refine ak rfl rfl rfl hw1 rfl rfl ?_
     repeat refine aa rfl ?_
     refine aP rfl rfl rfl hc1 rfl rfl rfl ?_
     repeat refine aa rfl ?_
     refine ab rfl ?_ ?_<;>intro h
     ·rw[if_pos (of_decide_eq_true h)]
      clear h
      repeat refine aa rfl ?_
      rw[hnx]
      refine aZ rfl rfl rfl rfl rfl rfl rfl hx1 rfl ?_
      repeat refine aa rfl ?_
      refine ak rfl rfl rfl hw1 rfl rfl ?_
      repeat refine aa rfl ?_
      exact⟨rfl,rfl,rfl,rfl,rfl,rfl,rfl,rfl,rfl,rfl,rfl,trivial⟩
     ·rw[if_neg (of_decide_eq_false h)]
      clear h
      repeat refine aa rfl ?_
      exact⟨rfl,rfl,rfl,rfl,rfl,rfl,rfl,rfl,rfl,rfl,rfl,trivial⟩
    ·exfalso
     have:=of_decide_eq_false h
     rw[hSm]at this
     omega
   ·have htp:AI c y p N i=y:=by rw[AI,if_neg (fun h=>h1 h.1)]
    rw[htp]
    clear htp
    repeat refine aa rfl ?_
    refine ah 18 [18,19,20,21,22,23,24,25,26,27,28,29,30,31,32,33,34,35] (by decide +kernel) ?_
    repeat refine aa rfl ?_
    rw[hnx]
    repeat refine aa rfl ?_
    refine dr rfl rfl rfl ?_ ?_<;>intro h
    ·exfalso
     have:=of_decide_eq_true h
     rw[hSm]at this
     omega
    ·clear h
     repeat refine aa rfl ?_
     exact⟨rfl,rfl,rfl,rfl,rfl,rfl,rfl,rfl,rfl,rfl,rfl,trivial⟩
  have vT:Vq (AI c y p N i) (dU c.s N p i) (n+8):=Ep hc
  have zbi:Zb (c.S.getD i 0):=aE hxi.1 hxi.2
  have e1:=iu (AI c y p N i) (ofQ ((c.S.getD i 0:Int):Rat)) (hx:=vT) (by omega) (by decide)
  rw[show dU c.s N p i-((c.S.getD i 0:Int):Rat)=dU c.s N p i-c.s i from rfl]at e1
  have vD:Vq (ofQ (dU c.s N p i-c.s i)) (dU c.s N p i-c.s i) (n+1+9):=Vq.ofQ (h:=DV hc hph i)
  have e2:=jH (ofQ (dU c.s N p i-c.s i)) (hx:=vD) (by omega)
  have e3:=cd (c.M.getD i RR.zero) (ofQ (dU c.s N p i-c.s i)) (hx:=hmv) (hy:=vD) (by decide) (by omega)
  have hg:=fw (dU c.s N p i-c.s i)
  have hP:bR c.s c.m N p i=(c.M.getD i RR.zero).val*cJ (dU c.s N p i-c.s i):=rfl
  have hS:ac (bR c.s c.m N p) (i+1)=ac (bR c.s c.m N p) i+bR c.s c.m N p i:=rfl
  by_cases hd:0<dU c.s N p i-c.s i
  ·rw[cJ,if_pos hd]at hP
   rw[←hP]at e3
   have vP:Vq (ofQ (bR c.s c.m N p i)) (bR c.s c.m N p i) (n+1+30):=Vq.ofQ (h:=nf hc hph i)
   have e4:=c7 (ofQ (ac (bR c.s c.m N p) i)) (ofQ (bR c.s c.m N p i)) (hx:=vs i) (hy:=vP) (by have:=hB i (by omega);omega) (by omega)
   rw[←hS]at e4
   have hgt:=hg.2 hd
   generalize hSN:ofQ (ac (bR c.s c.m N p) (i+1))=S1 at *
   generalize ofQ (ac (bR c.s c.m N p) i)=S0 at *
   generalize ofQ (bR c.s c.m N p i)=P0 at *
   generalize sgn (dU c.s N p i-c.s i)=sg at *
   generalize ofQ (dU c.s N p i-c.s i)=D0 at *
   generalize AI c y p N i=T0 at *
   generalize ofQ ((c.S.getD i 0:Int):Rat)=W0 at *
   generalize c.S.getD i 0=x0 at *
   generalize c.M.getD i RR.zero=m0 at *
   refine bF ?_
   refine ay (fE 8) ?_
   refine aU 8 1 [43,44,45,46,47,48,49,50,8] [] (by decide +kernel) rfl ?_
   repeat refine aa rfl ?_
   refine aZ rfl rfl rfl rfl rfl rfl rfl hx rfl ?_
   repeat refine aa rfl ?_
   refine ak rfl rfl rfl hw rfl rfl ?_
   repeat refine aa rfl ?_
   refine ak rfl rfl rfl e1 rfl rfl ?_
   repeat refine aa rfl ?_
   refine aP rfl rfl rfl e2 rfl rfl rfl ?_
   repeat refine aa rfl ?_
   refine ab rfl ?_ ?_<;>intro h
   ·clear h
    repeat refine aa rfl ?_
    refine ah 9 [54,55,56,57,58,59,60,61,62] (by decide +kernel) ?_
    repeat refine aa rfl ?_
    refine aZ rfl rfl rfl rfl rfl rfl rfl hmx rfl ?_
    repeat refine aa rfl ?_
    refine ak rfl rfl rfl e3 rfl rfl ?_
    repeat refine aa rfl ?_
    refine ak rfl rfl rfl e4 rfl rfl ?_
    repeat refine aa rfl ?_
    refine⟨i+1,hlt,by omega,rfl,rfl,rfl,rfl,congrArg I hnx,rfl,rfl,rfl,?_,trivial⟩
    show(_:Nat × Option Cont)=(1,some (Cont.mk 26 4 [eR (ofQ (ac (bR c.s c.m N p) (i+1)))] 2))
    rw[hSN]
    rfl
   ·exact absurd hgt (of_decide_eq_false h)
  ·rw[cJ,if_neg hd,Rat.mul_zero]at hP
   rw[hP,Rat.add_zero]at hS
   have hgt:¬0<sgn (dU c.s N p i-c.s i):=fun h=>hd (hg.1 h)
   rw[←hS]
   generalize hSN:ofQ (ac (bR c.s c.m N p) (i+1))=S0 at *
   generalize sgn (dU c.s N p i-c.s i)=sg at *
   generalize ofQ (dU c.s N p i-c.s i)=D0 at *
   generalize AI c y p N i=T0 at *
   generalize ofQ ((c.S.getD i 0:Int):Rat)=W0 at *
   generalize c.S.getD i 0=x0 at *
   refine bF ?_
   refine ay (fE 8) ?_
   refine aU 8 1 [43,44,45,46,47,48,49,50,8] [] (by decide +kernel) rfl ?_
   repeat refine aa rfl ?_
   refine aZ rfl rfl rfl rfl rfl rfl rfl hx rfl ?_
   repeat refine aa rfl ?_
   refine ak rfl rfl rfl hw rfl rfl ?_
   repeat refine aa rfl ?_
   refine ak rfl rfl rfl e1 rfl rfl ?_
   repeat refine aa rfl ?_
   refine aP rfl rfl rfl e2 rfl rfl rfl ?_
   repeat refine aa rfl ?_
   refine ab rfl ?_ ?_<;>intro h
   ·exact absurd (of_decide_eq_true h) hgt
   ·clear h
    repeat refine aa rfl ?_
    refine⟨i+1,hlt,by omega,rfl,rfl,rfl,rfl,congrArg I hnx,rfl,rfl,rfl,?_,trivial⟩
    show(_:Nat × Option Cont)=(1,some (Cont.mk 26 4 [eR (ofQ (ac (bR c.s c.m N p) (i+1)))] 2))
    rw[hSN]
    rfl
 ·have hie:i=N:=by have:=of_decide_eq_false h;rw[hSm]at this;omega
  clear h
  subst hie
  repeat refine aa rfl ?_
  exact aF rfl rfl rfl
set_option maxRecDepth 20000 in
theorem tH (c:CR) (hc:c.Lim) (h0:br c=0) (y:RR) {p:Rat} {n:Nat} [hy:Vq y p n] (hn:n≤1000000):Ret Tryz.prog .shared 113 [.agg (eC c),.agg (eR y)] (.agg (eR (ofQ (aI c.m (ic c.s p c.S.length))))):=by
 obtain⟨h40,hSM,-,hasc⟩:=bP h0
 have w0:=fW
 have hSm:(c.S.map eN).length=c.S.length:=by simp
 generalize hN:c.S.length=N at *
 refine Ret.of_pwp layOk mixed Go.Proofs.Tryz.func113 rfl (by decide) rfl rfl ?_
 repeat refine aa rfl ?_
 refine ak rfl rfl rfl w0 rfl rfl ?_
 repeat refine aa rfl ?_
 refine am (fun i:Nat=>i≤N) (fun i=>[(2,.ptr 2 1 0 0),(3,.ptr 3 1 0 0),(4,.ptr 4 1 0 0),(5,.ptr 5 1 0 0),(6,I (i:Nat))])
  (fun i=>[(2,1,⟨69,2,[eC c],2⟩),(3,1,⟨26,4,[eR y],2⟩),(4,1,⟨26,4,[zN],2⟩),(5,1,⟨26,4,[eR (ofQ (aI c.m (ic c.s p i)))],2⟩)]) (fun i=>N-i) 0 (Nat.zero_le _) ⟨rfl,rfl,rfl,rfl,rfl,rfl,rfl,rfl,rfl,trivial⟩ ?_
 intro i s hi
 repeat refine aa rfl ?_
 refine ab rfl ?_ ?_<;>intro h
 ·have hlt:i<N:=by have:=of_decide_eq_true h;rw[hSm]at this;omega
  clear h
  have hx:=aC (l:=c.S) (i:=i) (d:=0) (by omega)
  have hmx:=aC (l:=c.M) (i:=i) (d:=RR.zero) (by omega)
  have hxi:=hc.s _ (List.mem_of_getElem? hx)
  have hmv:=(hc.m _ (List.mem_of_getElem? hmx)).v
  have hw:=bk _ hxi
  have zbi:Zb (c.S.getD i 0):=aE hxi.1 hxi.2
  have hc1:=cS y (ofQ ((c.S.getD i 0:Int):Rat)) (by omega) (by decide)
  have hg:=tO (p-((c.S.getD i 0:Int):Rat))
  have e4:=c7 (c.M.getD i RR.zero) (ofQ 0) (hx:=hmv) (by decide) (by decide)
  rw[Rat.add_zero]at e4
  have hnx:IntKind.i64.wrap (((i:Nat):Int)+1)=((i+1:Nat):Int):=by rw[wrap_i64 (by omega) (by omega)];omega
  have hpr:ofQ (aI c.m (ic c.s p (i+1)))=if 0≤sgn (p-((c.S.getD i 0:Int):Rat)) then ofQ (c.M.getD i RR.zero).val else ofQ (aI c.m (ic c.s p i)):=by
   rw[ic]
   by_cases hle:c.s i≤p
   ·rw[if_pos hle,if_pos (hg.2 (by have:((c.S.getD i 0:Int):Rat)≤p:=hle;grind)),aI];rfl
   ·rw[if_neg hle,if_neg (fun h=>hle (by have:=hg.1 h;show((c.S.getD i 0:Int):Rat)≤p;grind))]
  generalize hSN:ofQ (aI c.m (ic c.s p (i+1)))=S1 at *
  generalize ofQ (aI c.m (ic c.s p i))=S0 at *
  generalize ofQ (c.M.getD i RR.zero).val=M1 at *
  generalize sgn (p-((c.S.getD i 0:Int):Rat))=sg at *
  generalize ofQ ((c.S.getD i 0:Int):Rat)=W0 at *
  generalize c.S.getD i 0=x0 at *
  generalize c.M.getD i RR.zero=m0 at *
  repeat refine aa rfl ?_
  refine ah 9 [15,16,17,18,19,20,21,22,23] (by decide +kernel) ?_
  repeat refine aa rfl ?_
  refine aZ rfl rfl rfl rfl rfl rfl rfl hx rfl ?_
  repeat refine aa rfl ?_
  refine ak rfl rfl rfl hw rfl rfl ?_
  repeat refine aa rfl ?_
  refine aP rfl rfl rfl hc1 rfl rfl rfl ?_
  repeat refine aa rfl ?_
  refine ab rfl ?_ ?_<;>intro h
  ·have h1:=of_decide_eq_true h
   clear h
   rw[if_pos h1]at hpr
   repeat refine aa rfl ?_
   refine ah 7 [24,25,26,27,28,29,30] (by decide +kernel) ?_
   repeat refine aa rfl ?_
   refine aZ rfl rfl rfl rfl rfl rfl rfl hmx rfl ?_
   repeat refine aa rfl ?_
   refine ak rfl rfl rfl w0 rfl rfl ?_
   repeat refine aa rfl ?_
   refine ak rfl rfl rfl e4 rfl rfl ?_
   repeat refine aa rfl ?_
   refine⟨i+1,hlt,by omega,rfl,rfl,rfl,rfl,congrArg I hnx,rfl,rfl,rfl,?_,trivial⟩
   show(_:Nat × Option Cont)=(1,some (Cont.mk 26 4 [eR (ofQ (aI c.m (ic c.s p (i+1))))] 2))
   rw[hSN,hpr]
   rfl
  ·have h1:=of_decide_eq_false h
   clear h
   rw[if_neg h1]at hpr
   repeat refine aa rfl ?_
   refine⟨i+1,hlt,by omega,rfl,rfl,rfl,rfl,congrArg I hnx,rfl,rfl,rfl,?_,trivial⟩
   show(_:Nat × Option Cont)=(1,some (Cont.mk 26 4 [eR (ofQ (aI c.m (ic c.s p (i+1))))] 2))
   rw[hSN,hpr]
   rfl
 ·have hie:i=N:=by have:=of_decide_eq_false h;rw[hSm]at this;omega
  clear h
  subst hie
  repeat refine aa rfl ?_
  exact aF rfl rfl rfl
def ga (c:CR):Rat:=if c.S.length=0 then 0 else b7 c.S.length c.s c.m (c.s (c.S.length-1))
theorem za {c:CR} (h0:br c=0) (hl:aI c.m c.S.length=0):ga c=kI c.S.length c.s c.m:=by
 rw[ga]
 split
 ·rename_i h
  rw[h,kI,gc,ac];grind
 ·rename_i h
  refine ky (oe h0) ⟨Nat.le_refl _,fun k hk=>?_,fun hlt=>by omega⟩ hl
  have:c.S.length-1=k:=by omega
  rw[this]
  exact Rat.le_refl
set_option maxRecDepth 20000 in
theorem wS (c:CR) (hc:c.Lim) (h0:br c=0):Ret Tryz.prog .shared 165 [.agg (eC c)] (.tup [.agg (eR (ofQ (ga c))),.bool (decide (aI c.m c.S.length=0))]):=by
 obtain⟨h40,hSM,-,hasc⟩:=bP h0
 have w0:=fW
 have hSm:(c.S.map eN).length=c.S.length:=by simp
 by_cases hz:c.S.length=0
 ·rw[ga,if_pos hz,hz,aI,decide_eq_true rfl]
  generalize ofQ 0=Z at *
  refine Ret.of_pwp layOk mixed Go.Proofs.Tryz.func165 rfl (by decide) rfl rfl ?_
  repeat refine aa rfl ?_
  refine ab rfl ?_ ?_<;>intro h
  ·clear h
   repeat refine aa rfl ?_
   refine ak rfl rfl rfl w0 rfl rfl ?_
   repeat refine aa rfl ?_
   exact aF rfl rfl rfl
  ·exfalso
   have:=of_decide_eq_false h
   omega
 ·rw[ga,if_neg hz]
  obtain⟨j,hj⟩:∃j,c.S.length=j+1:=⟨c.S.length-1,by omega⟩
  have hx:=aC (l:=c.S) (i:=j) (d:=0) (by omega)
  have hmx:=aC (l:=c.M) (i:=j) (d:=RR.zero) (by omega)
  have hxi:=hc.s _ (List.mem_of_getElem? hx)
  have hmv:=(hc.m _ (List.mem_of_getElem? hmx)).v
  have hw:=bk _ hxi
  have zbi:Zb (c.S.getD j 0):=aE hxi.1 hxi.2
  have hf:=jD c hc h0 (ofQ ((c.S.getD j 0:Int):Rat)) (by decide)
  have hs:=jH (c.M.getD j RR.zero) (hx:=hmv) (by decide)
  have hw1:IntKind.i64.wrap ((((c.S.map eN).length:Nat):Int)-1)=(j:Nat):=by rw[hSm,hj,wrap_i64 (by omega) (by omega)];omega
  have e0:=fV (c.M.getD j RR.zero).val
  have e1:decide (aI c.m c.S.length=0)=decide (sgn (c.M.getD j RR.zero).val=0):=by rw[decide_eq_decide,e0,hj,aI];rfl
  rw[e1,show c.s (c.S.length-1)=((c.S.getD j 0:Int):Rat) by rw[hj];rfl]
  clear e0 e1
  generalize ofQ (b7 c.S.length c.s c.m ((c.S.getD j 0:Int):Rat))=V at *
  generalize sgn (c.M.getD j RR.zero).val=sg at *
  generalize ofQ ((c.S.getD j 0:Int):Rat)=W0 at *
  generalize c.S.getD j 0=x0 at *
  generalize c.M.getD j RR.zero=m0 at *
  refine Ret.of_pwp layOk mixed Go.Proofs.Tryz.func165 rfl (by decide) rfl rfl ?_
  repeat refine aa rfl ?_
  refine ab rfl ?_ ?_<;>intro h
  ·exfalso
   have:=of_decide_eq_true h
   omega
  clear h
  repeat refine aa rfl ?_
  refine bt [2] [17] (by decide +kernel) ?_
  repeat refine aa rfl ?_
  rw[hw1]
  refine aZ rfl rfl rfl rfl rfl rfl rfl hx rfl ?_
  repeat refine aa rfl ?_
  refine ak rfl rfl rfl hw rfl rfl ?_
  repeat refine aa rfl ?_
  refine ak rfl rfl rfl hf rfl rfl ?_
  repeat refine aa rfl ?_
  rw[hw1]
  refine aZ rfl rfl rfl rfl rfl rfl rfl hmx rfl ?_
  repeat refine aa rfl ?_
  refine aP rfl rfl rfl hs rfl rfl rfl ?_
  repeat refine aa rfl ?_
  exact aF rfl rfl rfl
set_option maxRecDepth 20000 in
theorem lD (l:List SR) (hl:eJ l) (hck:bD l=0) (h12:l.length≤1000) (a:AR) {z t:Rat} {n m:Nat} [ha:Va a z t n m] (hn:n+m≤90000):Ret Tryz.prog .shared 52 [.sl (l.map eS),.agg (eA a)] (.sl ((FL l z t).map eR)):=by
 have hml:(l.map eS).length=l.length:=by simp
 have hrows:∀(k:Nat) x,l[k]? = some x→(FL (l.take (k+1)) z t).map eR=(FL (l.take k) z t).map eR++[eR (ofQ (fQ x z t))]:=fun k x hx=>by rw[FL,FL,cb hx,List.map_append,List.map_append];rfl
 have him:=fun x hx=>rW x (hl.1 x hx) a (z:=z) (t:=t) (by omega) (by omega)
 have hfo:∀x,x∈l→Ret Tryz.prog .shared 115 [.agg (eC x.k),.agg (eR (ofQ (yQ x z t)))] (.agg (eR (ofQ (fQ x z t)))):=fun x hx=>by
  have v1:Vq (ofQ (yQ x z t)) (yQ x z t) (13+(n+1+(m+1+4)+1)+1):=Vq.ofQ (h:=pc (hl.1 x hx) ha.z.hq ha.t.hq)
  exact jD x.k (hl.1 x hx).k (bu hck x hx) (ofQ (yQ x z t)) (hy:=v1) (by omega)
 obtain⟨az,at'⟩:=a
 refine Ret.of_pwp layOk mixed Go.Proofs.Tryz.func52 rfl (by decide) rfl rfl ?_
 (repeat ((fail_if_success (with_reducible refine aT 1 ?_));refine dh rfl ?_))
 ((repeat (first|refine aJ ?_ | refine b5 ?_ | refine bJ ?_ | refine bF ?_));refine aS ?_)
 (first|refine ar (fh 26 4 1 rfl rfl ?_)|refine ar (fg 26 4 1 rfl rfl ?_))
 repeat refine aa rfl ?_
 refine am (fun k=>k≤l.length) (fun k=>[(0,.sl (l.map eS)),(3,.ptr 3 1 0 0),(5,.als 5 (k+1) 0 ((FL (l.take k) z t).map eR).length),(6,I (k:Nat))]) (fun k=>[(3,1,⟨33,8,[eA ⟨az,at'⟩],2⟩),(5,k+1,⟨26,4,(FL (l.take k) z t).map eR,1⟩)]) (fun k=>l.length-k) 0 (Nat.zero_le _) ⟨rfl,rfl,rfl,rfl,rfl,rfl,trivial⟩ ?_
 intro k s hk
 repeat refine aa rfl ?_
 refine ab rfl ?_ ?_<;>intro h
 ·have hlt:k<l.length:=by have:=of_decide_eq_true h;omega
  clear h
  obtain⟨x,hx⟩:=aL hlt
  have e:=him x (List.mem_of_getElem? hx)
  have e2:=hfo x (List.mem_of_getElem? hx)
  have hw:=gz k
  have hil:(FL (l.take k) z t).length≤1000:=by rw[FL,List.length_map,List.length_take];omega
  have hr:=hrows k x hx
  generalize ofQ (yQ x z t)=Y at *
  generalize ofQ (fQ x z t)=F at *
  generalize FL (l.take k) z t=A at *
  obtain⟨xx,xc,xk⟩:=x
  simp only at *
  repeat refine aa rfl ?_
  refine bt [26,5] [13,14,15] (by decide +kernel) ?_
  repeat refine aa rfl ?_
  refine aZ rfl rfl rfl rfl rfl rfl rfl hx rfl ?_
  repeat refine aa rfl ?_
  refine aZ rfl rfl rfl rfl rfl rfl rfl hx rfl ?_
  repeat refine aa rfl ?_
  refine ak rfl rfl rfl e rfl rfl ?_
  repeat refine aa rfl ?_
  refine ak rfl rfl rfl e2 rfl rfl ?_
  repeat refine aa rfl ?_
  refine AT rfl rfl rfl (be 1 rfl rfl rfl rfl rfl rfl rfl rfl rfl rfl rfl (by repeat' constructor) rfl ⟨pW rfl,?_⟩)
  repeat refine aa rfl ?_
  refine AT rfl rfl rfl (bE 1 rfl rfl rfl rfl rfl rfl rfl rfl rfl rfl rfl (by repeat' constructor) (by intro row hr;first|(simp at hr;subst hr;rfl)|(simp at hr;obtain⟨_,_,rfl⟩:=hr;rfl)|simp at hr) rfl rfl (by simp;omega) (by simp;omega) ⟨pW rfl,?_⟩)
  repeat refine aa rfl ?_
  refine⟨k+1,hlt,by omega,rfl,rfl,?_,congrArg I hw,rfl,?_,trivial⟩
  ·rw[hr];rfl
  ·rw[hr];rfl
 ·have hge:k=l.length:=by have:=of_decide_eq_false h;omega
  subst hge
  clear h
  rw[List.take_length]
  repeat refine aa rfl ?_
  exact fP rfl rfl rfl ⟨rfl,rfl,rfl⟩ rfl
set_option maxRecDepth 20000 in
theorem z7 (l:List SR) (hl:eJ l) (h12:l.length≤12) (Fl:List RR) (f:Nat→Rat) {N:Nat} (hf:∀i,i<l.length→Fl[i]? = some (ofQ (f i))) (hH:∀i,i<l.length→HQ (f i) N) (hN:N≤800500) :
  Ret Tryz.prog .shared 205 [.sl (l.map eS),.sl (Fl.map eR)] (.agg (eR (ofQ (ac f l.length))++eR (ofQ (ac (fun i=>f i*xI l i) l.length)))):=by
 have w0:=fW
 have hml:(l.map eS).length=l.length:=by simp
 have hGH:∀i,i<l.length→HQ (f i*xI l i) (N+4):=fun i hi=>by
  have hx:=(hl.1 _ (aB hi)).x
  have hx:Zb (l.getD i dS).x:=aE hx.1 hx.2
  exact @HQ.mul _ _ _ 4 (hH i hi) HQ.int
 have hB:∀i,i≤l.length→i*(N+4+1)+4≤12000000:=fun i hi=>by
  have:=Nat.mul_le_mul (show i≤12 by omega) (show N+4+1≤800505 by omega)
  omega
 generalize hg:(fun i=>f i*xI l i)=g at *
 refine Ret.of_pwp layOk mixed Go.Proofs.Tryz.func205 rfl (by decide) rfl rfl ?_
 repeat refine aa rfl ?_
 refine ak rfl rfl rfl w0 rfl rfl ?_
 repeat refine aa rfl ?_
 refine ak rfl rfl rfl w0 rfl rfl ?_
 repeat refine aa rfl ?_
 refine am (fun i:Nat=>i≤l.length) (fun i=>[(0,.sl (l.map eS)),(1,.sl (Fl.map eR)),(4,.ptr 4 1 0 0),(5,.ptr 5 1 0 0),(6,I (i:Nat))])
  (fun i=>[(4,1,⟨185,8,[zN++zN],2⟩),(5,1,⟨185,8,[eR (ofQ (ac f i))++eR (ofQ (ac g i))],2⟩)]) (fun i=>l.length-i) 0 (Nat.zero_le _) ⟨rfl,rfl,rfl,rfl,rfl,rfl,rfl,trivial⟩ ?_
 intro i s hi
 repeat refine aa rfl ?_
 refine ab rfl ?_ ?_<;>intro h
 ·have hlt:i<l.length:=by have:=of_decide_eq_true h;omega
  clear h
  have hx:=aC (d:=dS) hlt
  have hFi:=hf i hlt
  have hxx:=(hl.1 _ (aB hlt)).x
  have hzb:Zb (l.getD i dS).x:=aE hxx.1 hxx.2
  have hw:=gz i
  have hBi:=hB i hi
  have hgi:f i*((l.getD i dS).x:Rat)=g i:=by rw[←hg];rfl
  have v0:Vq (ofQ (f i)) (f i) N:=Vq.ofQ (h:=hH i hlt)
  have vg:Vq (ofQ (g i)) (g i) (N+4):=Vq.ofQ (h:=by rw[←hg];exact hGH i hlt)
  have v1:Vq (ofQ (ac f i)) (ac f i) (i*(N+1)+4):=Vq.ofQ (h:=aK i fun k hk=>hH k (by omega))
  have v2:Vq (ofQ (ac g i)) (ac g i) (i*(N+4+1)+4):=Vq.ofQ (h:=aK i fun k hk=>by rw[←hg];exact hGH k (by omega))
  have h1:=c7 (ofQ (ac f i)) (ofQ (f i)) (hx:=v1) (hy:=v0) (by have:=Nat.mul_le_mul (Nat.le_refl i) (show N+1≤N+4+1 by omega);omega) (by omega)
  have h2:=bk (l.getD i dS).x hxx
  have h3:=cd (ofQ (f i)) (ofQ ((l.getD i dS).x:Rat)) (hx:=v0) (by omega) (by decide)
  rw[hgi]at h3
  have h4:=c7 (ofQ (ac g i)) (ofQ (g i)) (hx:=v2) (hy:=vg) (by omega) (by omega)
  rw[show ac f i+f i=ac f (i+1) from rfl]at h1
  rw[show ac g i+g i=ac g (i+1) from rfl]at h4
  generalize hF1:ofQ (ac f (i+1))=F1 at *
  generalize hG1:ofQ (ac g (i+1))=G1 at *
  generalize ofQ (ac f i)=F0 at *
  generalize ofQ (ac g i)=G0 at *
  generalize ofQ (f i)=f0 at *
  generalize ofQ (g i)=g0 at *
  repeat refine aa rfl ?_
  refine ah 8 [16,17,18,19,20,21,22,23] (by decide +kernel) ?_
  repeat refine aa rfl ?_
  refine aZ rfl rfl rfl rfl rfl rfl rfl hFi rfl ?_
  repeat refine aa rfl ?_
  refine ak rfl rfl rfl h1 rfl rfl ?_
  repeat refine aa rfl ?_
  refine ah 15 [24,25,26,27,28,29,30,31,32,33,34,35,36,37,38] (by decide +kernel) ?_
  repeat refine aa rfl ?_
  refine aZ rfl rfl rfl rfl rfl rfl rfl hFi rfl ?_
  repeat refine aa rfl ?_
  refine aZ rfl rfl rfl rfl rfl rfl rfl hx rfl ?_
  repeat refine aa rfl ?_
  refine ak rfl rfl rfl h2 rfl rfl ?_
  repeat refine aa rfl ?_
  refine ak rfl rfl rfl h3 rfl rfl ?_
  repeat refine aa rfl ?_
  refine ak rfl rfl rfl h4 rfl rfl ?_
  repeat refine aa rfl ?_
  refine⟨i+1,hlt,by omega,rfl,rfl,rfl,rfl,congrArg I hw,rfl,?_,trivial⟩
  show(_:Nat × Option Cont)=(1,some (Cont.mk 185 8 [eR (ofQ (ac f (i+1)))++eR (ofQ (ac g (i+1)))] 2))
  rw[hF1,hG1]
  rfl
 ·have hie:i=l.length:=by have:=of_decide_eq_false h;omega
  clear h
  subst hie
  repeat refine aa rfl ?_
  exact aF rfl rfl rfl
theorem xR {l:List SR} {z t:Rat} {i:Nat} (hi:i<l.length):(FL l z t)[i]? = some (ofQ (fI l z t i)):=by
 rw[FL,List.getElem?_map,aC (d:=dS) hi];rfl
theorem Ea {l:List SR} (hl:eJ l) (hf:kF l) {z t:Rat} {n m:Nat} (hz:HQ z n) (ht:HQ t m) {i:Nat} (hi:i<l.length):HQ (fI l z t i) (8*(n+m+60)+4):=qY (hl.1 _ (aB hi)) (hf.2 _ (aB hi)) hz ht
theorem tK (l:List SR) (hl:eJ l) (hc:bD l=0) (hf:kF l) (a:AR) {z t:Rat} {n m:Nat} [ha:Va a z t n m] (hn:n+m≤90000) :
  Ret Tryz.prog .shared 168 [.sl (l.map eS),.agg (eA a)] (.agg (eR (ofQ (ac (fI l z t) l.length))++eR (ofQ (ac (gI l z t) l.length)))):=by
 have h12:=hf.1
 have h1:=lD l hl hc (by omega) a (z:=z) (t:=t) hn
 have h2:=z7 l hl hf.1 (FL l z t) (fI l z t) (fun i hi=>xR hi) (fun i hi=>Ea hl hf ha.z.hq ha.t.hq hi) (by omega)
 rw[show(fun i=>fI l z t i*xI l i)=gI l z t from rfl]at h2
 generalize ofQ (ac (fI l z t) l.length)=X1 at *
 generalize ofQ (ac (gI l z t) l.length)=X2 at *
 generalize FL l z t=L at *
 obtain⟨az,at'⟩:=a
 refine Ret.of_pwp layOk mixed Go.Proofs.Tryz.func168 rfl (by decide) rfl rfl ?_
 repeat refine aa rfl ?_
 refine ak rfl rfl rfl h1 rfl rfl ?_
 repeat refine aa rfl ?_
 refine ak rfl rfl rfl h2 rfl rfl ?_
 repeat refine aa rfl ?_
 exact aF rfl rfl rfl
theorem zT (b:BR) (hb:b.Ok) (a:AR) {z t:Rat} {n m:Nat} [ha:Va a z t n m] (hn:n+m≤60000):Ret Tryz.prog .shared 110 [.agg (eB b),.agg (eA a)] (.bool (decide ((bd b).Bal z t))):=by
 have h1:=tK b.l hb.lim.l hb.chkL hb.few a (z:=z) (t:=t) (by omega)
 have h2:=bk b.w hb.lim.w
 have hw:Zb b.w:=aE hb.lim.w.1 hb.lim.w.2
 have v0:Vq (ofQ (ac (fI b.l z t) b.l.length)) (ac (fI b.l z t) b.l.length) (96*(n+1+(m+1)+60)+200):=Vq.ofQ (h:=AV hb.lim.l hb.few ha.z.hq ha.t.hq)
 have h5:=cS (ofQ (ac (fI b.l z t) b.l.length)) (ofQ (b.w:Rat)) (hx:=v0) (by omega) (by decide)
 have h3:=cd (ofQ (b.w:Rat)) b.a (hy:=hb.lim.a.v) (by decide) (by decide)
 have v1:Vq (ofQ (ac (gI b.l z t) b.l.length)) (ac (gI b.l z t) b.l.length) (96*(n+1+(m+1)+60)+200):=Vq.ofQ (h:=AX hb.lim.l hb.few ha.z.hq ha.t.hq)
 have v2:Vq (ofQ ((b.w:Rat)*b.a.val)) ((b.w:Rat)*b.a.val) 17:=Vq.ofQ (h:=sC hb)
 have h4:=cS (ofQ (ac (gI b.l z t) b.l.length)) (ofQ ((b.w:Rat)*b.a.val)) (hx:=v1) (hy:=v2) (by omega) (by decide)
 have key:decide ((bd b).Bal z t)=(decide (sgn (ac (fI b.l z t) b.l.length-(b.w:Rat))=0)&&decide (sgn (ac (gI b.l z t) b.l.length-(b.w:Rat)*b.a.val)=0)):=by
  rw[←Bool.decide_and,decide_eq_decide,fV,fV]
  show ac (fI b.l z t) b.l.length=(b.w:Rat)∧ac (gI b.l z t) b.l.length=(b.w:Rat)*b.a.val↔_
  constructor
  ·rintro⟨e1,e2⟩;rw[e1,e2];constructor<;>grind
  ·rintro⟨e1,e2⟩;constructor<;>grind
 rw[key]
 generalize sgn (ac (fI b.l z t) b.l.length-(b.w:Rat))=g1 at *
 generalize sgn (ac (gI b.l z t) b.l.length-(b.w:Rat)*b.a.val)=g2 at *
 generalize ofQ (ac (fI b.l z t) b.l.length)=X1 at *
 generalize ofQ (ac (gI b.l z t) b.l.length)=X2 at *
 generalize ofQ ((b.w:Rat)*b.a.val)=X3 at *
 generalize ofQ (b.w:Rat)=X4 at *
 obtain⟨w,ba,l⟩:=b
 obtain⟨az,at'⟩:=a
 simp only at *
 refine Ret.of_pwp layOk mixed Go.Proofs.Tryz.func110 rfl (by decide) rfl rfl ?_
 repeat refine aa rfl ?_
 refine ak rfl rfl rfl h1 rfl rfl ?_
 repeat refine aa rfl ?_
 refine ak rfl rfl rfl h2 rfl rfl ?_
 repeat refine aa rfl ?_
 refine ah 16 [14,15,16,17,18,19,20,21,22,23,24,25,26,27,28,4] (by decide +kernel) ?_
 repeat refine aa rfl ?_
 refine aP rfl rfl rfl h5 rfl rfl rfl ?_
 repeat refine aa rfl ?_
 refine dr rfl rfl rfl ?_ ?_<;>intro h
 ·rw[h]
  clear h
  repeat refine aa rfl ?_
  refine ak rfl rfl rfl h3 rfl rfl ?_
  repeat refine aa rfl ?_
  refine aP rfl rfl rfl h4 rfl rfl rfl ?_
  repeat refine aa rfl ?_
  exact bi rfl rfl rfl
 ·rw[h]
  clear h
  repeat refine aa rfl ?_
  exact bi rfl rfl rfl
def EU (F:List RR) (n:Nat):Prop:=∀x∈F,x.le n
theorem DF {l:List SR} (hl:eJ l) (hf:kF l) {z t:Rat} {n m:Nat} (hz:HQ z n) (ht:HQ t m):EU (FL l z t) (8*(n+m+60)+4):=by
 intro x hx
 obtain⟨s,hs,rfl⟩:=List.mem_map.1 hx
 exact dp (qY (hl.1 s hs) (hf.2 s hs) hz ht).ok
def uB (S1 T1 V1 S2 T2 V2:Rat):Option (Rat × Rat):=if S1*T2-T1*S2=0 then none else some ((V1*T2-T1*V2)/(S1*T2-T1*S2),(S1*V2-V1*S2)/(S1*T2-T1*S2))
set_option maxRecDepth 20000 in
theorem wQ (s1 t1 v1 s2 t2 v2:RR) {S1 T1 V1 S2 T2 V2:Rat} {n:Nat} (a1:Vq s1 S1 n) (a2:Vq t1 T1 n) (a3:Vq v1 V1 n) (a4:Vq s2 S2 n) (a5:Vq t2 T2 n) (a6:Vq v2 V2 n) (hn:n≤1000000) :
  Ret Tryz.prog .shared 111 [.agg (eK s1 t1 v1),.agg (eK s2 t2 v2)] (iz (uB S1 T1 V1 S2 T2 V2)):=by
 have m1:=cd s1 t2 (hx:=a1) (hy:=a5) (by omega) (by omega)
 have m2:=cd t1 s2 (hx:=a2) (hy:=a4) (by omega) (by omega)
 have w1:Vq (ofQ (S1*T2)) (S1*T2) (n+1+(n+1)):=Vq.ofQ (h:=@HQ.mul _ _ _ _ a1.hq a5.hq)
 have w2:Vq (ofQ (T1*S2)) (T1*S2) (n+1+(n+1)):=Vq.ofQ (h:=@HQ.mul _ _ _ _ a2.hq a4.hq)
 have m3:=iu (ofQ (S1*T2)) (ofQ (T1*S2)) (hx:=w1) (hy:=w2) (by omega) (by omega)
 have w3:Vq (ofQ (S1*T2-T1*S2)) (S1*T2-T1*S2) (n+1+(n+1)+(n+1+(n+1))+1):=Vq.ofQ (h:=@HQ.sub _ _ _ _ (bX w1) (bX w2))
 have sg:=jH (ofQ (S1*T2-T1*S2)) (hx:=w3) (by omega)
 have hs0:=fV (S1*T2-T1*S2)
 by_cases h0:S1*T2-T1*S2=0
 ·rw[uB,if_pos h0]
  rw[hs0.2 h0]at sg
  simp only[iz]
  generalize ofQ (S1*T2-T1*S2)=D at *
  generalize ofQ (S1*T2)=D1 at *
  generalize ofQ (T1*S2)=D2 at *
  refine Ret.of_pwp layOk mixed Go.Proofs.Tryz.func111 rfl (by decide) rfl rfl ?_
  repeat refine aa rfl ?_
  refine aU 11 1 [9,10,11,12,13,14,15,16,17,18,19,6] [] (by decide +kernel) rfl ?_
  repeat refine aa rfl ?_
  refine ak rfl rfl rfl m1 rfl rfl ?_
  repeat refine aa rfl ?_
  refine ak rfl rfl rfl m2 rfl rfl ?_
  repeat refine aa rfl ?_
  refine ak rfl rfl rfl m3 rfl rfl ?_
  repeat refine aa rfl ?_
  refine aP rfl rfl rfl sg rfl rfl rfl ?_
  repeat refine aa rfl ?_
  exact aF rfl rfl rfl
 ·have hne:sgn (S1*T2-T1*S2)≠0:=fun h=>h0 (hs0.1 h)
  rw[uB,if_neg h0]
  have m4:=cd v1 t2 (hx:=a3) (hy:=a5) (by omega) (by omega)
  have m5:=cd t1 v2 (hx:=a2) (hy:=a6) (by omega) (by omega)
  have w4:Vq (ofQ (V1*T2)) (V1*T2) (n+1+(n+1)):=Vq.ofQ (h:=@HQ.mul _ _ _ _ a3.hq a5.hq)
  have w5:Vq (ofQ (T1*V2)) (T1*V2) (n+1+(n+1)):=Vq.ofQ (h:=@HQ.mul _ _ _ _ a2.hq a6.hq)
  have m6:=iu (ofQ (V1*T2)) (ofQ (T1*V2)) (hx:=w4) (hy:=w5) (by omega) (by omega)
  have w6:Vq (ofQ (V1*T2-T1*V2)) (V1*T2-T1*V2) (n+1+(n+1)+(n+1+(n+1))+1):=Vq.ofQ (h:=@HQ.sub _ _ _ _ (bX w4) (bX w5))
  have m7:=yh (ofQ (V1*T2-T1*V2)) (ofQ (S1*T2-T1*S2)) (hx:=w6) (hy:=w3) (by omega) (by omega) h0
  have m8:=cd s1 v2 (hx:=a1) (hy:=a6) (by omega) (by omega)
  have m9:=cd v1 s2 (hx:=a3) (hy:=a4) (by omega) (by omega)
  have w8:Vq (ofQ (S1*V2)) (S1*V2) (n+1+(n+1)):=Vq.ofQ (h:=@HQ.mul _ _ _ _ a1.hq a6.hq)
  have w9:Vq (ofQ (V1*S2)) (V1*S2) (n+1+(n+1)):=Vq.ofQ (h:=@HQ.mul _ _ _ _ a3.hq a4.hq)
  have ma:=iu (ofQ (S1*V2)) (ofQ (V1*S2)) (hx:=w8) (hy:=w9) (by omega) (by omega)
  have wa:Vq (ofQ (S1*V2-V1*S2)) (S1*V2-V1*S2) (n+1+(n+1)+(n+1+(n+1))+1):=Vq.ofQ (h:=@HQ.sub _ _ _ _ (bX w8) (bX w9))
  have mb:=yh (ofQ (S1*V2-V1*S2)) (ofQ (S1*T2-T1*S2)) (hx:=wa) (hy:=w3) (by omega) (by omega) h0
  simp only[iz]
  generalize ofQ ((V1*T2-T1*V2)/(S1*T2-T1*S2))=R1 at *
  generalize ofQ ((S1*V2-V1*S2)/(S1*T2-T1*S2))=R2 at *
  generalize sgn (S1*T2-T1*S2)=gs at *
  generalize ofQ (S1*T2-T1*S2)=D at *
  generalize ofQ (V1*T2-T1*V2)=D3 at *
  generalize ofQ (S1*V2-V1*S2)=D4 at *
  generalize ofQ (S1*T2)=D1 at *
  generalize ofQ (T1*S2)=D2 at *
  generalize ofQ (V1*T2)=D5 at *
  generalize ofQ (T1*V2)=D6 at *
  generalize ofQ (S1*V2)=D7 at *
  generalize ofQ (V1*S2)=D8 at *
  refine Ret.of_pwp layOk mixed Go.Proofs.Tryz.func111 rfl (by decide) rfl rfl ?_
  repeat refine aa rfl ?_
  refine aU 11 1 [9,10,11,12,13,14,15,16,17,18,19,6] [] (by decide +kernel) rfl ?_
  repeat refine aa rfl ?_
  refine ak rfl rfl rfl m1 rfl rfl ?_
  repeat refine aa rfl ?_
  refine ak rfl rfl rfl m2 rfl rfl ?_
  repeat refine aa rfl ?_
  refine ak rfl rfl rfl m3 rfl rfl ?_
  repeat refine aa rfl ?_
  refine aP rfl rfl rfl sg rfl rfl rfl ?_
  repeat refine aa rfl ?_
  refine ab rfl ?_ ?_<;>intro h
  ·exact absurd (of_decide_eq_true h) hne
  clear h
  repeat refine aa rfl ?_
  refine aU 13 1 [24,25,26,27,28,29,30,31,32,33,34,35,36,7] [] (by decide +kernel) rfl ?_
  repeat refine aa rfl ?_
  refine ak rfl rfl rfl m4 rfl rfl ?_
  repeat refine aa rfl ?_
  refine ak rfl rfl rfl m5 rfl rfl ?_
  repeat refine aa rfl ?_
  refine ak rfl rfl rfl m6 rfl rfl ?_
  repeat refine aa rfl ?_
  refine ak rfl rfl rfl m7 rfl rfl ?_
  repeat refine aa rfl ?_
  refine aU 13 1 [37,38,39,40,41,42,43,44,45,46,47,48,49,8] [] (by decide +kernel) rfl ?_
  repeat refine aa rfl ?_
  refine ak rfl rfl rfl m8 rfl rfl ?_
  repeat refine aa rfl ?_
  refine ak rfl rfl rfl m9 rfl rfl ?_
  repeat refine aa rfl ?_
  refine ak rfl rfl rfl ma rfl rfl ?_
  repeat refine aa rfl ?_
  refine ak rfl rfl rfl mb rfl rfl ?_
  repeat refine aa rfl ?_
  exact aF rfl rfl rfl
theorem rU {n k:Nat} (h:k<n):List.range n=List.range k++k::List.range' (k+1) (n-(k+1)):=by
 rw[List.range_eq_range',List.range_eq_range',show n=k+(1+(n-(k+1))) by omega,←List.range'_append_1,←List.range'_append_1]
 simp
 congr 1
 omega
theorem Bp {α:Type} (p:α→Bool) (f:Nat→List α) {n k i:Nat} {a:α} (hk:k<n) (h1:∀k',k'<k→∀x∈f k',p x=false) (hi:(f k)[i]? = some a) (h2:∀j,j<i→∀x,(f k)[j]? = some x→p x=false) (ha:p a=true) :
  ((List.range n).flatMap f).find? p=some a:=by
 obtain⟨hlt,he⟩:=List.getElem?_eq_some_iff.1 hi
 rw[rU hk,List.flatMap_append,List.flatMap_cons]
 have e:f k=(f k).take i++a::(f k).drop (i+1):=by
  rw[←he,←List.drop_eq_getElem_cons hlt,List.take_append_drop]
 rw[List.find?_append,List.find?_append]
 have n1:((List.range k).flatMap f).find? p=none:=List.find?_eq_none.2 fun x hx=>by
  obtain⟨k',hk',hx⟩:=List.mem_flatMap.1 hx
  simp[h1 k' (List.mem_range.1 hk') x hx]
 have n2:((f k).take i).find? p=none:=List.find?_eq_none.2 fun x hx=>by
  obtain⟨j,hj⟩:=List.mem_iff_getElem?.1 hx
  rw[List.getElem?_take]at hj
  split at hj
  ·rename_i hji
   simp[h2 j hji x hj]
  ·cases hj
 rw[n1]
 conv=>lhs;rw[e]
 rw[List.find?_append,n2,List.find?_cons_of_pos ha]
 rfl
theorem pI {α:Type} (p:α→Bool) (f:Nat→List α) {n:Nat} (h1:∀k',k'<n→∀x∈f k',p x=false):((List.range n).flatMap f).find? p=none:=List.find?_eq_none.2 fun x hx=>by
 obtain⟨k',hk',hx⟩:=List.mem_flatMap.1 hx
 simp[h1 k' (List.mem_range.1 hk') x hx]
abbrev Ln:=Bd.Ln
def nX (l:Ln):List PV:=eK (ofQ l.s) (ofQ l.t) (ofQ l.v)
structure LnH (l:Ln):Prop where
 s:HQ l.s 300
 t:HQ l.t 300
 v:HQ l.v 4200
theorem jR {a c:Ln} (ha:LnH a) (hc:LnH c) {p:Rat × Rat} (h:Bd.cross a c=some p):HQ p.1 12000∧HQ p.2 12000:=by
 rw[Bd.cross]at h
 split at h
 ·cases h
 ·cases h
  have dt:=@HQ.sub _ _ _ _ (@HQ.mul _ _ 300 300 ha.s hc.t) (@HQ.mul _ _ 300 300 ha.t hc.s)
  exact⟨(@HQ.div _ _ _ _ (@HQ.sub _ _ _ _ (@HQ.mul _ _ 4200 300 ha.v hc.t) (@HQ.mul _ _ 300 4200 ha.t hc.v)) dt).mono (by decide),(@HQ.div _ _ _ _ (@HQ.sub _ _ _ _ (@HQ.mul _ _ 300 4200 ha.s hc.v) (@HQ.mul _ _ 4200 300 ha.v hc.s)) dt).mono (by decide)⟩
def EA (o:Option (Rat × Rat)):AR:=match o with
 |none=>zA
 |some p=>⟨ofQ p.1,ofQ p.2⟩
def bh (l:List SR):List Ln:=l.flatMap fun s=>s.k.S.map fun(n:Int)=>⟨1,(s.x:Rat),(n:Rat)-s.c.val⟩
def cY (b:BR) (p:Nat→Nat):Ln:=(bd b).force p
def cf (b:BR) (p:Nat→Nat):Ln:=(bd b).moment p
def iA (l:List Nat) (i:Nat):Nat:=l.getD i 0
def ku (F M e:Ln):List (Rat × Rat):=(Bd.cross F e).toList++(Bd.cross M e).toList
def fB (F M:Ln) (E:List Ln):List (Rat × Rat):=match Bd.cross F M with
 |some a=>[a]
 |none=>(E++[Bd.flat]).flatMap (ku F M)
def eo (b:BR):List Nat:=b.l.map fun s=>s.k.S.length
def dK (b:BR) (k:Nat):List (Rat × Rat):=fB (cY b (iA (c6 (eo b) k))) (cf b (iA (c6 (eo b) k))) (bh b.l)
def eY (b:BR) (a:Rat × Rat):Bool:=decide ((bd b).Bal a.1 a.2)
def lB (E:List Ln) (i:Nat):List (Rat × Rat):=(List.range i).flatMap fun j=>(Bd.cross (E.getD i Bd.flat) (E.getD j Bd.flat)).toList
def ca (b:BR):List Ln:=bh b.l++[Bd.flat]
def gw (b:BR):Option (Rat × Rat):=match ((List.range (bS (eo b))).flatMap (dK b)).find? (eY b) with
 |some a=>some a
 |none=>((List.range (ca b).length).flatMap (lB (ca b))).find? (eY b)
theorem pJ:LnH Bd.flat:=⟨HQ.zero.mono (by decide),HQ.one.mono (by decide),HQ.zero.mono (by decide)⟩
theorem mz {l:List SR} (hl:eJ l) {e:Ln} (h:e∈bh l):LnH e:=by
 obtain⟨s,hs,he⟩:=List.mem_flatMap.1 h
 obtain⟨n,hn,rfl⟩:=List.mem_map.1 he
 have hs:=hl.1 s hs
 have zx:Zb s.x:=aE hs.x.1 hs.x.2
 have hn:=hs.k.s n hn
 have zn:Zb n:=aE hn.1 hn.2
 exact⟨HQ.one.mono (by decide),(HQ.int (z:=s.x)).mono (by decide),(@HQ.sub _ _ 4 13 (HQ.int (z:=n)) hs.c.v.hq).mono (by decide)⟩
theorem sX {b:BR} (hb:b.Ok) {e:Ln} (h:e∈ca b):LnH e:=by
 rcases List.mem_append.1 h with h|h
 ·exact mz hb.lim.l h
 ·rw[List.mem_singleton.1 h];exact pJ
theorem iP {E:List Ln} (hE:∀e∈E,LnH e) (i:Nat):LnH (E.getD i Bd.flat):=by
 rw[List.getD_eq_getElem?_getD]
 cases h:E[i]? with
 |none=>exact pJ
 |some e=>exact hE e (List.mem_of_getElem? h)
theorem p4 (b:BR) (k:Nat):∀i,i<b.l.length→iA (c6 (eo b) k) i≤(bd b).n i:=fun i hi=>by
 have h:=uM (eo b) k i (by rw[eo,List.length_map];exact hi)
 have e:(eo b).getD i 0=(bd b).n i:=by
  rw[eo,List.getD_eq_getElem?_getD,List.getElem?_map,aC (d:=dS) hi]
  rfl
 rw[e]at h
 exact h
theorem uy {b:BR} (hb:b.Ok) {p:Nat→Nat} (hp:∀i,i<b.l.length→p i≤(bd b).n i):LnH (cY b p):=by
 have zw:Zb b.w:=aE hb.lim.w.1 hb.lim.w.2
 exact⟨ue hb p,qD hb p,(@HQ.sub _ _ 4 4100 (HQ.int (z:=b.w)) (xT hb hp)).mono (by decide)⟩
theorem ry {b:BR} (hb:b.Ok) {p:Nat→Nat} (hp:∀i,i<b.l.length→p i≤(bd b).n i):LnH (cf b p):=by
 have zw:Zb b.w:=aE hb.lim.w.1 hb.lim.w.2
 exact⟨qD hb p,xV hb p,(@HQ.sub _ _ 17 4100 (@HQ.mul _ _ 4 13 (HQ.int (z:=b.w)) hb.lim.a.v.hq) (Cm hb hp)).mono (by decide)⟩
theorem Dr {F M e:Ln} (hF:LnH F) (hM:LnH M) (he:LnH e) {a:Rat × Rat} (h:a∈ku F M e):HQ a.1 12000∧HQ a.2 12000:=by
 rcases List.mem_append.1 h with h|h
 ·exact jR hF he (Option.mem_toList.1 h)
 ·exact jR hM he (Option.mem_toList.1 h)
theorem A9 {F M:Ln} {E:List Ln} (hF:LnH F) (hM:LnH M) (hE:∀e∈E,LnH e) {a:Rat × Rat} (h:a∈fB F M E):HQ a.1 12000∧HQ a.2 12000:=by
 rw[fB]at h
 split at h
 ·rename_i p hp
  rw[List.mem_singleton.1 h]
  exact jR hF hM hp
 ·obtain⟨e,he,h⟩:=List.mem_flatMap.1 h
  refine Dr hF hM ?_ h
  rcases List.mem_append.1 he with he|he
  ·exact hE e he
  ·rw[List.mem_singleton.1 he];exact pJ
theorem qM {b:BR} (hb:b.Ok) {k:Nat} {a:Rat × Rat} (h:a∈dK b k):HQ a.1 12000∧HQ a.2 12000 :=
 A9 (uy hb (p4 b k)) (ry hb (p4 b k)) (fun _ he=>mz hb.lim.l he) h
theorem uK {b:BR} (hb:b.Ok) {i:Nat} {a:Rat × Rat} (h:a∈lB (ca b) i):HQ a.1 12000∧HQ a.2 12000:=by
 obtain⟨j,_,h⟩:=List.mem_flatMap.1 h
 exact jR (iP (fun _ he=>sX hb he) i) (iP (fun _ he=>sX hb he) j) (Option.mem_toList.1 h)
theorem Ax {b:BR} (hb:b.Ok) {a:Rat × Rat} (h:gw b=some a):(bd b).Bal a.1 a.2∧HQ a.1 12000∧HQ a.2 12000:=by
 rw[gw]at h
 split at h
 ·rename_i x hx
  cases h
  refine⟨of_decide_eq_true (show eY b a=true from List.find?_some hx),?_⟩
  obtain⟨k,_,hk⟩:=List.mem_flatMap.1 (List.mem_of_find?_eq_some hx)
  exact qM hb hk
 ·refine⟨of_decide_eq_true (show eY b a=true from List.find?_some h),?_⟩
  obtain⟨k,_,hk⟩:=List.mem_flatMap.1 (List.mem_of_find?_eq_some h)
  exact uK hb hk
theorem gF {b:BR} {i k:Nat} (hi:i<(bd b).N) (hk:k<(bd b).n i):(bd b).corner i k∈bh b.l:=by
 refine List.mem_flatMap.2 ⟨b.l.getD i dS,aB hi,List.mem_map.2 ⟨(b.l.getD i dS).k.S.getD k 0,List.mem_of_getElem? (aC hk),rfl⟩⟩
theorem nc {b:BR} {p:Nat→Nat} (hp:∀i,i<(bd b).N→p i≤(bd b).n i):∃k,k<bS (eo b)∧∀i,i<(bd b).N→iA (c6 (eo b) k) i=p i:=by
 have hn:(eo b).length=b.l.length:=by rw[eo,List.length_map]
 obtain⟨k,h1,h2⟩:=rN (eo b) ((List.range b.l.length).map p) (by simp[hn]) fun i hi=>by
  have hi':i<b.l.length:=by omega
  have e:(eo b).getD i 0=(bd b).n i:=by
   rw[eo,List.getD_eq_getElem?_getD,List.getElem?_map,aC (d:=dS) hi']
   rfl
  rw[e,List.getD_eq_getElem?_getD,List.getElem?_map,List.getElem?_range hi']
  exact hp i hi'
 refine⟨k,h1,fun i hi=>?_⟩
 have hi':i<b.l.length:=hi
 rw[iA,h2,List.getD_eq_getElem?_getD,List.getElem?_map,List.getElem?_range hi']
 rfl
theorem ip {b:BR} {p q:Nat→Nat} (h:∀i,i<(bd b).N→p i=q i):cY b p=cY b q∧cf b p=cf b q:=by
 have e1:(bd b).Kh p=(bd b).Kh q:=aY fun i hi=>by rw[Bd.k,Bd.k,h i hi]
 have e2:(bd b).Kc p=(bd b).Kc q:=aY fun i hi=>by rw[Bd.k,Bd.k,h i hi]
 have e3:(bd b).Kp p=(bd b).Kp q:=aY fun i hi=>by rw[Bd.k,Bd.k,h i hi]
 have e4:(bd b).Fo p=(bd b).Fo q:=aY fun i hi=>by rw[Bd.k,Bd.k,Bd.o,Bd.o,h i hi]
 have e5:(bd b).Go p=(bd b).Go q:=aY fun i hi=>by rw[Bd.k,Bd.k,Bd.o,Bd.o,h i hi]
 exact⟨by rw[cY,cY,Bd.force,Bd.force,e1,e2,e4],by rw[cf,cf,Bd.moment,Bd.moment,e2,e3,e5]⟩
theorem qt {b:BR} {k:Nat} {a:Rat × Rat} (hk:k<bS (eo b)) (h:a∈dK b k) (hb:(bd b).Bal a.1 a.2):gw b≠none:=by
 rw[gw]
 split
 ·intro h;cases h
 ·rename_i h2
  have:=List.find?_eq_none.1 h2 a (List.mem_flatMap.2 ⟨k,List.mem_range.2 hk,h⟩)
  exact absurd (decide_eq_true hb) this
theorem so {b:BR} {i j:Nat} {a:Rat × Rat} (hi:i<(ca b).length) (hj:j<i) (h:Bd.cross ((ca b).getD i Bd.flat) ((ca b).getD j Bd.flat)=some a) (hb:(bd b).Bal a.1 a.2):gw b≠none:=by
 rw[gw]
 split
 ·intro h;cases h
 ·intro h2
  have:=List.find?_eq_none.1 h2 a (List.mem_flatMap.2 ⟨i,List.mem_range.2 hi,List.mem_flatMap.2 ⟨j,List.mem_range.2 hj,Option.mem_toList.2 h⟩⟩)
  exact absurd (decide_eq_true hb) this
theorem nH {b:BR} {e f:Ln} {a:Rat × Rat} (he:e∈ca b) (hf:f∈ca b) (h1:e.on a.1 a.2) (h2:f.on a.1 a.2) (hd:e.s*f.t-e.t*f.s≠0) (hb:(bd b).Bal a.1 a.2):gw b≠none:=by
 obtain⟨i,hi⟩:=List.mem_iff_getElem?.1 he
 obtain⟨j,hj⟩:=List.mem_iff_getElem?.1 hf
 have gi:(ca b).getD i Bd.flat=e:=by rw[List.getD_eq_getElem?_getD,hi];rfl
 have gj:(ca b).getD j Bd.flat=f:=by rw[List.getD_eq_getElem?_getD,hj];rfl
 have li:=(List.getElem?_eq_some_iff.1 hi).1
 have lj:=(List.getElem?_eq_some_iff.1 hj).1
 rcases Nat.lt_trichotomy i j with h|h|h
 ·exact so lj h (by rw[gi,gj];exact Bd.cross_at h2 h1 (by intro h0;apply hd;grind)) hb
 ·subst h
  rw[gi]at gj
  exfalso;apply hd;rw[gj];grind
 ·exact so li h (by rw[gi,gj];exact Bd.cross_at h1 h2 hd) hb
theorem B_ {b:BR} (hb:b.Ok) {z t:Rat} (h:(bd b).Bal z t):∃a,gw b=some a:=by
 have hw:(bd b).w≠0:=by
  have:=jN hb.chk
  show((b.w:Int):Rat)≠0
  have h2:b.w≠0:=by omega
  exact_mod_cast h2
 have key:gw b≠none:=by
  rcases Bd.found (eG hb) hw h with⟨p,a,hp,h1,h2⟩|⟨p,a,hp,h0,i,k,hi,hk,h1,h2⟩|⟨p,a,hp,h0,h1,h2⟩|⟨a,i,k,j,l,hi,hk,hj,hl,hn,h1,h1',h2⟩|⟨a,i,k,hi,hk,h1,h1',h2⟩
  ·obtain⟨k,hk,e⟩:=nc hp
   obtain⟨e1,e2⟩:=ip e
   refine qt hk ?_ h2
   have h1:Bd.cross (cY b p) (cf b p)=some a:=h1
   rw[dK,e1,e2,fB,h1]
   exact List.mem_singleton.2 rfl
  ·obtain⟨m,hm,e⟩:=nc hp
   obtain⟨e1,e2⟩:=ip e
   refine qt hm ?_ h2
   have h0:Bd.cross (cY b p) (cf b p)=none:=h0
   rw[dK,e1,e2,fB,h0]
   exact List.mem_flatMap.2 ⟨_,List.mem_append_left _ (gF hi hk),List.mem_append_left _ (Option.mem_toList.2 h1)⟩
  ·obtain⟨m,hm,e⟩:=nc hp
   obtain⟨e1,e2⟩:=ip e
   refine qt hm ?_ h2
   have h0:Bd.cross (cY b p) (cf b p)=none:=h0
   rw[dK,e1,e2,fB,h0]
   exact List.mem_flatMap.2 ⟨_,List.mem_append_right _ (List.mem_singleton.2 rfl),List.mem_append_left _ (Option.mem_toList.2 h1)⟩
  ·refine nH (List.mem_append_left _ (gF hi hk)) (List.mem_append_left _ (gF hj hl)) h1 h1' ?_ h2
   show(1:Rat)*(bd b).X j-(bd b).X i*1≠0
   intro h0;apply hn;grind
  ·refine nH (List.mem_append_left _ (gF hi hk)) (List.mem_append_right _ (List.mem_singleton.2 rfl)) h1 h1' ?_ h2
   show(1:Rat)*1-(bd b).X i*0≠0
   grind
 cases hq:gw b with
 |none=>exact absurd hq key
 |some a=>exact⟨a,rfl⟩
end Go.Pv
namespace Go.Pv
open Go.RowKit
variable [Globs]
variable {s:St}
end Go.Pv
set_option maxHeartbeats 2000000
namespace Go.Pv
attribute [local irreducible] PWP POps PQuiet PSem ax ao aj ai
open Go.Proofs
structure ChOk (f:FuncId) (caps:List PV) (ch:SR→SR) (x:SR):Prop where
 run:∀ {K:St→Prop} {s:St} {d g g4 g5 g400:Nat} {c4 c5 c400:Cont} {c a:Operand} {tys:Array TypeId} {ty:TypeId} {pos:String} {af:Array Edge},s.ev c = .clo f caps→s.ev a = .ptr 8 g 0 0 →
 FitO s [(8,g,⟨71,7,[eS x],2⟩),(4,g4,c4),(5,g5,c5),(400,g400,c400)] →
 (∀s1:St,K (({ reg:=s.reg,own:=(s1.over [] [(8,g,⟨71,7,[eS (ch x)],2⟩),(4,g4,c4),(5,g5,c5),(400,g400,c400)]).own }:St).putR d (.tup []))) →
 Sm Tryz.prog lay.get s ⟨some d,.call ⟨.value c,#[a],tys⟩,ty,pos,af,none⟩ K
open Go.Proofs Go.RowKit Go.Sort
theorem Chg.trans {w w1 w2:World} {b:Nat} {T:TypeId} {c1 c2:Array Value} (h1:Chg w w1 b T c1) (h2:Chg w1 w2 b T c2):Chg w w2 b T c2 :=
 ⟨h2.os.trans h1.os,h2.tape.trans h1.tape,h2.output.trans h1.output,Nat.le_trans h1.size h2.size,fun b' hne hb=>(h2.other b' hne (Nat.lt_of_lt_of_le hb h1.size)).trans (h1.other b' hne hb),h2.at_⟩
theorem yZ {L:Lay} {fn:Func} {K:(Nat→Nat × Option Cont)→PV→Prop} {s:St} {l:List PV} {Cd:Prop} {r:PV} (owns:List (Nat × Nat × Cont)) (h:Aa L s fn.results.toList=some (l,Cd)) (hc:Cd) (hl:gS l=r) (ho:FitO s owns)
  (hk:∀s1:St,K (s1.over [] owns).own r):ai L fn (fun s' r=>K s'.own r) .ret s:=by
 have hk:=hk s
 rw[Fit.over (l:=[]) ho,←hl]at hk
 unfold ai
 exact⟨l,Cd,h,hc,hk⟩
theorem y_ {c:CR} (hc:c.Lim) (h0:br c=0) (h8:c.S.length≤8):HQ (ga c) 600:=by
 rw[ga]
 split
 ·exact HQ.zero.mono (by decide)
 ·obtain⟨-,-,-,hasc⟩:=bP h0
  rw[b7,d9 fun i hi=>hasc i hi]
  exact(aK (m:=4+30) c.S.length fun k _=>nf hc (B0 hc _) k).mono (by omega)
theorem Dx {l:List SR} {A B:Rat} {i:Nat} (h:0<A+B*xI l i):yT l A B i=cI l i*(A+B*xI l i):=by rw[yT,if_pos h]
theorem Dw {l:List SR} {A B:Rat} {i:Nat} (h:¬0<A+B*xI l i):yT l A B i=0:=by rw[yT,if_neg h]
set_option maxRecDepth 20000 in
theorem ke (b:BR) (hb:b.Ok) (r:AR) {A B:Rat} {n m:Nat} (hr:Va r A B n m) (h2:n≤90000) (h3:m≤90000):Ret Tryz.prog .shared 105 [.agg (eB b),.agg (eA r)] (.bool (fT b A B)):=by
 have w0:=fW
 have h12:=hb.few.1
 have hl:=hb.lim.l
 have hf:=hb.few
 have hck:=hb.chkL
 have hml:(b.l.map eS).length=b.l.length:=by simp
 have zw:Zb b.w:=aE hb.lim.w.1 hb.lim.w.2
 have hrz:=hr.z
 have hrt:=hr.t
 have k1:=cd r.t b.a (hx:=hrt) (hy:=hb.lim.a.v) (by omega) (by decide)
 have vk1:Vq (ofQ (B*b.a.val)) (B*b.a.val) (m+1+13):=Vq.ofQ (h:=@HQ.mul _ _ _ _ hrt.hq hb.lim.a.v.hq)
 have k2:=c7 r.z (ofQ (B*b.a.val)) (hx:=hrz) (hy:=vk1) (by omega) (by omega)
 have vk2:Vq (ofQ (A+B*b.a.val)) (A+B*b.a.val) (n+1+(m+1+13)+1):=Vq.ofQ (h:=@HQ.add _ _ _ _ hrz.hq (bX vk1))
 have k3:=bk b.w hb.lim.w
 have k4:=cd (ofQ (b.w:Rat)) (ofQ (A+B*b.a.val)) (hy:=vk2) (by decide) (by omega)
 have vk4:Vq (ofQ ((b.w:Rat)*(A+B*b.a.val))) ((b.w:Rat)*(A+B*b.a.val)) (4+(n+1+(m+1+13)+1)):=Vq.ofQ (h:=@HQ.mul _ _ 4 _ HQ.int (bX vk2))
 have hF:∀F,fT b A B=F→True:=fun _ _=>trivial
 clear hF
 have hvs:∀i,i≤b.l.length→di b.l A B i→Vq (ofQ (ac (yT b.l A B) i)) (ac (yT b.l A B) i) (i*(200+(n+1+(m+1+4)+1)+1)+4):=fun i hi hal=>Vq.ofQ (h:=aK i fun k hk=>vf hl hf hrz.hq hrt.hq (show k<b.l.length by omega) (hal k hk))
 have hBd:∀i,i≤b.l.length→i*(200+(n+1+(m+1+4)+1)+1)+4≤2200000:=fun i hi=>by have:=Nat.mul_le_mul (show i≤12 by omega) (show 200+(n+1+(m+1+4)+1)+1≤180210 by omega);omega
 have hend:di b.l A B b.l.length→fT b A B=decide (sgn (ac (yT b.l A B) b.l.length-(b.w:Rat)*(A+B*b.a.val))<0):=fun hal=>by
  have hsl:=eE (ac (yT b.l A B) b.l.length-(b.w:Rat)*(A+B*b.a.val))
  rw[fT,decide_eq_decide,hsl]
  constructor
  ·intro h;have:=h.2;grind
  ·intro h;exact⟨hal,by grind⟩
 have hno:∀i,i<b.l.length→0<A+B*xI b.l i→¬Bw b.l i→fT b A B=false:=fun i hi hp hn=>by
  cases hq:fT b A B with
  |false=>rfl
  |true=>exact absurd ((gd.1 hq).1 i hi hp) hn
 have hend2:di b.l A B b.l.length→Ret Tryz.prog .shared 28 [.agg (eR (ofQ (ac (yT b.l A B) b.l.length))),.agg (eR (ofQ ((b.w:Rat)*(A+B*b.a.val))))] (I (sgn (ac (yT b.l A B) b.l.length-(b.w:Rat)*(A+B*b.a.val)))):=fun hal =>
  cS _ _ (hx:=hvs _ (Nat.le_refl _) hal) (hy:=vk4) (by have:=hBd _ (Nat.le_refl b.l.length);omega) (by omega)
 generalize hRF:fT b A B=RF at *
 generalize (b.w:Rat)*(A+B*b.a.val)=DM at *
 generalize ofQ DM=D4 at *
 generalize ofQ (A+B*b.a.val)=D2 at *
 generalize ofQ (B*b.a.val)=D1 at *
 generalize ofQ (b.w:Rat)=D3 at *
 clear vk1 vk2 vk4 hRF hb
 obtain⟨w,ba,l⟩:=b
 obtain⟨rz,rt⟩:=r
 simp only at *
 refine Ret.of_pwp layOk mixed Go.Proofs.Tryz.func105 rfl (by decide) rfl rfl ?_
 repeat refine aa rfl ?_
 refine ak rfl rfl rfl w0 rfl rfl ?_
 repeat refine aa rfl ?_
 refine am (fun i:Nat=>i≤l.length∧di l A B i) (fun i=>[(2,.ptr 2 1 0 0),(3,.ptr 3 1 0 0),(5,.ptr 5 1 0 0),(6,I (i:Nat))])
  (fun i=>[(2,1,⟨29,6,[eB ⟨w,ba,l⟩],2⟩),(3,1,⟨38,8,[eA ⟨rz,rt⟩],2⟩),(5,1,⟨26,4,[eR (ofQ (ac (yT l A B) i))],2⟩)]) (fun i=>l.length-i) 0 ⟨Nat.zero_le _,fun k hk=>by omega⟩ ⟨rfl,rfl,rfl,rfl,rfl,rfl,rfl,trivial⟩ ?_
 intro i s ⟨hi,hal⟩
 repeat refine aa rfl ?_
 refine ab rfl ?_ ?_<;>intro h
 ·have hlt:i<l.length:=by have:=of_decide_eq_true h;simp only at this;omega
  clear h
  have hx:=aC (d:=dS) hlt
  have hxl:=hl.1 _ (aB hlt)
  have hxc:=bu hck _ (aB hlt)
  have h8:=hf.2 _ (aB hlt)
  have zx:Zb (l.getD i dS).x:=aE hxl.x.1 hxl.x.2
  have hw:=gz i
  have e1:=bk (l.getD i dS).x hxl.x
  have e2:=cd rt (ofQ ((l.getD i dS).x:Rat)) (hx:=hrt) (by omega) (by decide)
  have v2:Vq (ofQ (B*((l.getD i dS).x:Rat))) (B*((l.getD i dS).x:Rat)) (m+1+4):=Vq.ofQ (h:=@HQ.mul _ _ (m+1) 4 hrt.hq HQ.int)
  have e3:=c7 rz (ofQ (B*((l.getD i dS).x:Rat))) (hx:=hrz) (hy:=v2) (by omega) (by omega)
  rw[show A+B*((l.getD i dS).x:Rat)=dI l A B i from rfl]at e3
  have v3:Vq (ofQ (dI l A B i)) (dI l A B i) (n+1+(m+1+4)+1):=Vq.ofQ (h:=@HQ.add _ _ (n+1) _ hrz.hq (bX v2))
  have e4:=jH (ofQ (dI l A B i)) (hx:=v3) (by omega)
  have hsl:=tP (dI l A B i)
  have e5:=wS (l.getD i dS).k hxl.k hxc
  have vm:Vq (ofQ (ga (l.getD i dS).k)) (ga (l.getD i dS).k) 600:=Vq.ofQ (h:=y_ hxl.k hxc h8)
  have e6:=cd (ofQ (ga (l.getD i dS).k)) (ofQ (dI l A B i)) (hx:=vm) (hy:=v3) (by decide) (by omega)
  have hS:ac (yT l A B) (i+1)=ac (yT l A B) i+yT l A B i:=rfl
  by_cases hd:0<A+B*xI l i
  ·have hng:¬sgn (dI l A B i)≤0:=fun h=>by have:=hsl.1 h;have hd2:0<dI l A B i:=hd;grind
   by_cases hlm:aI (l.getD i dS).k.m (l.getD i dS).k.S.length=0
   ·have hmc:=za hxc hlm
    rw[decide_eq_true hlm]at e5
    have hal2:di l A B (i+1):=fun k hk hp=>by
     rcases Nat.lt_or_ge k i with g|g
     ·exact hal k g hp
     ·obtain rfl:k=i:=by omega
      exact hlm
    have hy:yT l A B i=ga (l.getD i dS).k*dI l A B i:=by rw[Dx hd,hmc];rfl
    rw[←hy]at e6
    have vy:Vq (ofQ (yT l A B i)) (yT l A B i) (200+(n+1+(m+1+4)+1)):=Vq.ofQ (h:=vf hl hf hrz.hq hrt.hq hlt (fun _=>hlm))
    have e7:=c7 (ofQ (ac (yT l A B) i)) (ofQ (yT l A B i)) (hx:=hvs i hi hal) (hy:=vy) (by have:=hBd i hi;omega) (by omega)
    rw[←hS]at e7
    generalize hS1:ofQ (ac (yT l A B) (i+1))=S1 at *
    generalize ofQ (ac (yT l A B) i)=S0 at *
    generalize ofQ (yT l A B i)=Y0 at *
    generalize ofQ (ga (l.getD i dS).k)=M0 at *
    generalize sgn (dI l A B i)=sg at *
    generalize ofQ (dI l A B i)=E0 at *
    generalize ofQ (B*((l.getD i dS).x:Rat))=E1 at *
    generalize ofQ ((l.getD i dS).x:Rat)=E2 at *
    generalize l.getD i dS=x at *
    obtain⟨xx,xc,xk⟩:=x
    simp only at *
    repeat refine aa rfl ?_
    refine aZ rfl rfl rfl rfl rfl rfl rfl hx rfl ?_
    (repeat ((fail_if_success (with_reducible refine aT 6 ?_));refine dh rfl ?_))
    refine ay (fE 8) ?_
    refine aU 9 1 [24,25,26,27,28,29,30,31,32,8] [] (by decide +kernel) rfl ?_
    repeat refine aa rfl ?_
    refine ak rfl rfl rfl e1 rfl rfl ?_
    repeat refine aa rfl ?_
    refine ak rfl rfl rfl e2 rfl rfl ?_
    repeat refine aa rfl ?_
    refine ak rfl rfl rfl e3 rfl rfl ?_
    repeat refine aa rfl ?_
    refine aP rfl rfl rfl e4 rfl rfl rfl ?_
    repeat refine aa rfl ?_
    refine ab rfl ?_ ?_<;>intro h
    ·exact absurd (of_decide_eq_true h) hng
    clear h
    repeat refine aa rfl ?_
    refine ak rfl rfl rfl e5 rfl rfl ?_
    repeat refine aa rfl ?_
    refine ah 5 [44,45,46,47,48] (by decide +kernel) ?_
    repeat refine aa rfl ?_
    refine ak rfl rfl rfl e6 rfl rfl ?_
    repeat refine aa rfl ?_
    refine ak rfl rfl rfl e7 rfl rfl ?_
    repeat refine aa rfl ?_
    refine⟨i+1,⟨hlt,hal2⟩,by omega,rfl,rfl,rfl,congrArg I hw,rfl,rfl,?_,trivial⟩
    show(_:Nat × Option Cont)=(1,some (Cont.mk 26 4 [eR (ofQ (ac (yT l A B) (i+1)))] 2))
    rw[hS1]
    rfl
   ·have hRF:=hno i hlt hd hlm
    rw[decide_eq_false hlm]at e5
    subst hRF
    generalize ofQ (ga (l.getD i dS).k)=M0 at *
    generalize sgn (dI l A B i)=sg at *
    generalize ofQ (dI l A B i)=E0 at *
    generalize ofQ (B*((l.getD i dS).x:Rat))=E1 at *
    generalize ofQ ((l.getD i dS).x:Rat)=E2 at *
    generalize l.getD i dS=x at *
    obtain⟨xx,xc,xk⟩:=x
    simp only at *
    repeat refine aa rfl ?_
    refine aZ rfl rfl rfl rfl rfl rfl rfl hx rfl ?_
    (repeat ((fail_if_success (with_reducible refine aT 6 ?_));refine dh rfl ?_))
    refine ay (fE 8) ?_
    refine aU 9 1 [24,25,26,27,28,29,30,31,32,8] [] (by decide +kernel) rfl ?_
    repeat refine aa rfl ?_
    refine ak rfl rfl rfl e1 rfl rfl ?_
    repeat refine aa rfl ?_
    refine ak rfl rfl rfl e2 rfl rfl ?_
    repeat refine aa rfl ?_
    refine ak rfl rfl rfl e3 rfl rfl ?_
    repeat refine aa rfl ?_
    refine aP rfl rfl rfl e4 rfl rfl rfl ?_
    repeat refine aa rfl ?_
    refine ab rfl ?_ ?_<;>intro h
    ·exact absurd (of_decide_eq_true h) hng
    clear h
    repeat refine aa rfl ?_
    refine ak rfl rfl rfl e5 rfl rfl ?_
    repeat refine aa rfl ?_
    exact bi rfl rfl rfl
  ·have hng:sgn (dI l A B i)≤0:=hsl.2 (by have hd2:¬0<dI l A B i:=hd;grind)
   have hal2:di l A B (i+1):=fun k hk hp=>by
    rcases Nat.lt_or_ge k i with g|g
    ·exact hal k g hp
    ·obtain rfl:k=i:=by omega
     exact absurd hp hd
   rw[Dw hd,Rat.add_zero]at hS
   generalize sgn (dI l A B i)=sg at *
   generalize ofQ (dI l A B i)=E0 at *
   generalize ofQ (B*((l.getD i dS).x:Rat))=E1 at *
   generalize ofQ ((l.getD i dS).x:Rat)=E2 at *
   generalize l.getD i dS=x at *
   obtain⟨xx,xc,xk⟩:=x
   simp only at *
   repeat refine aa rfl ?_
   refine aZ rfl rfl rfl rfl rfl rfl rfl hx rfl ?_
   (repeat ((fail_if_success (with_reducible refine aT 6 ?_));refine dh rfl ?_))
   refine ay (fE 8) ?_
   refine aU 9 1 [24,25,26,27,28,29,30,31,32,8] [] (by decide +kernel) rfl ?_
   repeat refine aa rfl ?_
   refine ak rfl rfl rfl e1 rfl rfl ?_
   repeat refine aa rfl ?_
   refine ak rfl rfl rfl e2 rfl rfl ?_
   repeat refine aa rfl ?_
   refine ak rfl rfl rfl e3 rfl rfl ?_
   repeat refine aa rfl ?_
   refine aP rfl rfl rfl e4 rfl rfl rfl ?_
   repeat refine aa rfl ?_
   refine ab rfl ?_ ?_<;>intro h
   ·clear h
    repeat refine aa rfl ?_
    refine⟨i+1,⟨hlt,hal2⟩,by omega,rfl,rfl,rfl,congrArg I hw,rfl,rfl,?_,trivial⟩
    show(_:Nat × Option Cont)=(1,some (Cont.mk 26 4 [eR (ofQ (ac (yT l A B) (i+1)))] 2))
    rw[hS]
    rfl
   ·exact absurd hng (of_decide_eq_false h)
 ·have hie:i=l.length:=by have:=of_decide_eq_false h;simp only at this;omega
  clear h
  subst hie
  have e8:=hend2 hal
  have e9:=hend hal
  generalize sgn (ac (yT l A B) l.length-DM)=sg at *
  generalize ofQ (ac (yT l A B) l.length)=S0 at *
  subst e9
  repeat refine aa rfl ?_
  refine ah 16 [49,50,51,52,53,54,55,56,57,58,59,60,61,62,63,4] (by decide +kernel) ?_
  repeat refine aa rfl ?_
  refine ak rfl rfl rfl k3 rfl rfl ?_
  repeat refine aa rfl ?_
  refine ak rfl rfl rfl k1 rfl rfl ?_
  repeat refine aa rfl ?_
  refine ak rfl rfl rfl k2 rfl rfl ?_
  repeat refine aa rfl ?_
  refine ak rfl rfl rfl k4 rfl rfl ?_
  repeat refine aa rfl ?_
  refine aP rfl rfl rfl e8 rfl rfl rfl ?_
  repeat refine aa rfl ?_
  exact bi rfl rfl rfl
theorem wy {b:BR} (hb:ArgB b) (h:mU b=true):b.Lim∧(bq b=0→b.Ok∧(bd b).Sz):=by
 rw[mU,Bool.and_eq_true,Af,ko]at h
 exact⟨⟨hb.w,h.2.mono (by decide),nz hb.data h.1 (by decide) (by decide)⟩,fun hc=>⟨Ah hb.w hb.data h.2 h.1 (by decide) (by decide) hc,Ai hb.w hb.data h.2 h.1 (by decide) (by decide) hc⟩⟩
theorem io {α β:Type} (f:α→List β) (n:Nat):∀(l:List α),(∀x∈l,(f x).length≤n)→(l.flatMap f).length≤l.length*n
 |[],_=>by simp
 |x::l,h=>by
  have h1:=h x (by simp)
  have h2:=io f n l fun y hy=>h y (by simp[hy])
  rw[List.flatMap_cons,List.length_append,List.length_cons,Nat.add_mul]
  omega
theorem vJ {l:List SR} (h:l.length≤10) (h4:∀s∈l,s.k.S.length≤4) (t:Rat):(i9 l t).length≤40:=by
 have h1:=io (lq t) 4 l fun s hs=>by rw[lQ];exact h4 s hs
 rw[i9]
 omega
theorem th {b:BR} (h:mU b=true) (t:Rat):(i9 b.l t).length≤40:=by
 rw[mU,Bool.and_eq_true,ko]at h
 exact vJ h.1.1 (fun s hs=>(h.1.2 s hs).1) t
theorem wv {b:BR} (hb:ArgB b) (h:mU b=true):b.Good:=by
 obtain⟨h1,h2⟩:=wy hb h
 exact⟨h1,fun h0=>⟨(h2 h0).1,(h2 h0).2,th h⟩⟩
def Cn (b:BR):Prop:=∀z t,¬(bd b).Bal z t
theorem oT {b:BR} (hb:b.Ok) {r:AR} (h:cT b r=true):Cn b:=fun z t hz=>by
 have:=po hb hz r.z.val r.t.val
 rw[cT]at h
 rw[h]at this
 cases this
inductive Said (b:BR):Prop
 |none (r:AR) (e:Int) (he:e=12∨e=13) (hr:cT b r=true) (hv:Va r r.z.val r.t.val 4 4) (hn:Cn b) (h1:dR b=⟨zA,[],r,e⟩) (h2:cK b=([],e))
 |loose (z t:Rat) (hn:i7 b) (hb:(bd b).Bal z t) (hz:HQ z 24000) (ht:HQ t 20000) (h1:dR b=⟨zA,[],zA,14⟩) (h2:cK b=(FL b.l z t,0))
 |one (z t:Rat) (hn:i7 b) (hb:(bd b).Bal z t) (hz:HQ z 24000) (ht:HQ t 20000) (hu:∀z' t',(bd b).Bal z' t'→z'=z∧t'=t) (h1:dR b=⟨⟨ofQ z,ofQ t⟩,FL b.l z t,zA,0⟩) (h2:cK b=(FL b.l z t,0))
theorem EE {b:BR} (hg:b.Good) (h0:bq b=0):Said b:=by
 obtain⟨hb,hs,-⟩:=hg.2 h0
 have e1:=@rfl _ (dR b)
 have e2:=@rfl _ (cK b)
 conv at e1=>rhs;rw[dR,if_pos h0]
 conv at e2=>rhs;rw[cK,if_pos h0]
 by_cases h1:cT b bz=true
 ·rw[if_pos h1]at e1 e2
  exact .none bz 12 (.inl rfl) h1 lR (oT hb h1) e1 e2
 ·rw[if_neg h1]at e1 e2
  cases h2:(bI b.l).find? (cT b) with
  |some r =>
   rw[h2]at e1 e2
   exact .none r 13 (.inr rfl) (List.find?_some h2) (l_ hb.chkL (List.mem_of_find?_eq_some h2)) (oT hb (List.find?_some h2)) e1 e2
  |none =>
   rw[h2]at e1 e2
   have hn:=iO h1 h2
   obtain⟨_,hbal,hz,ht⟩:=im hb hs hn
   simp only at e1 e2
   cases hl:cw b (g_ b).1 (g_ b).2 with
   |true =>
    rw[if_pos hl]at e1
    exact .loose _ _ hn hbal hz ht e1 e2
   |false =>
    rw[if_neg (by rw[hl];decide)]at e1
    exact .one _ _ hn hbal hz ht ((gL hb hbal).1 hl) e1 e2
theorem AU {b:BR} {z t z' t':Rat} (h:∀i,i<(bd b).N→(bd b).f z' t' i=(bd b).f z t i):FL b.l z' t'=FL b.l z t:=by
 refine List.ext_getElem? fun i=>?_
 by_cases hi:i<b.l.length
 ·rw[xR hi,xR hi]
  exact congrArg (fun q=>some (ofQ q)) (h i hi)
 ·rw[List.getElem?_eq_none (by rw[FL,List.length_map];omega),List.getElem?_eq_none (by rw[FL,List.length_map];omega)]
theorem yc {b:BR} (hb:b.Ok) {z t z' t':Rat} (h:(bd b).Bal z t) (h':(bd b).Bal z' t'):FL b.l z' t'=FL b.l z t:=by
 have h1:=Bd.least_energy (eG hb) h z' t'
 have h2:=Bd.least_energy (eG hb) h' z t
 exact AU (h1.2 (by grind))
theorem ub:Ret Tryz.prog .shared 27 [I 1] (.agg (eR (ofQ 1))):=by
 have:=bk 1 ⟨by decide,by decide⟩
 rwa [show(((1:Int):Rat))=1 from rfl]at this
def fD (s:SR):List Ln:=s.k.S.map fun(n:Int)=>⟨1,(s.x:Rat),(n:Rat)-s.c.val⟩
theorem sO {l:List SR} {i:Nat} {s:SR} (h:l[i]? = some s):bh (l.take (i+1))=bh (l.take i)++fD s:=by
 rw[bY h,bh,bh,List.flatMap_append]
 simp[fD]
theorem sP {s:SR} {k:Nat} (h:k<s.k.S.length):(fD s).take (k+1)=(fD s).take k++[⟨1,(s.x:Rat),((s.k.S.getD k 0:Int):Rat)-s.c.val⟩]:=by
 refine bY ?_
 rw[fD,List.getElem?_map,aC (d:=(0:Int)) h]
 rfl
theorem kK (s:SR):(fD s).length=s.k.S.length:=List.length_map _
theorem mA {l:List SR} (h8:∀s∈l,s.k.S.length≤8):(bh l).length≤l.length*8:=io _ 8 l fun s hs=>by
 show(fD s).length≤8
 rw[kK];exact h8 s hs
abbrev aX (l:List Ln):List (List PV):=l.map nX
set_option maxRecDepth 20000 in
theorem sQ {K:St→Prop} {s:St} {d g1 g02:Nat} {R1 R02:Cont} {x:Operand} {tys:Array TypeId} {ty:TypeId} {pos:String} {af:Array Edge} (l:List SR) (hl:eJ l) (hf:kF l)
  (hx:s.ev x = .sl (l.map eS)) (ho:FitO s [(1,g1,R1),(1002,g02,R02)])
  (hK:∀(s1:St) (g:Nat),K (({ reg:=s.reg,own:=(s1.over [] [(1,g1,R1),(1002,g02,R02),(1003,g,⟨164,12,aX (bh l),1⟩)]).own }:St).putR d (.als 1003 g 0 (aX (bh l)).length))) :
  Sm Tryz.prog lay.get s ⟨some d,.call ⟨.value (.func 107),#[x],tys⟩,ty,pos,af,none⟩ K:=by
 have w1:=ub
 have hml:(l.map eS).length=l.length:=by simp
 have h12:=hf.1
 have hcl:=fun i=>mA (l:=l.take i) fun s hs=>hf.2 s (List.mem_of_mem_take hs)
 refine cp layOk rfl rfl Tryz.func107 rfl (by decide) rfl rfl ?_
 show PWP _ _ _ _ (bC s (([x]:List Operand).map s.ev++[]))
 rw[show(([x]:List Operand).map s.ev++([]:List PV))=[.sl (l.map eS)] by simp[hx]]
 rw[show bC s [.sl (l.map eS)]=bC (s.over [] [(1,g1,R1),(1002,g02,R02)]) [.sl (l.map eS)] by rw[Fit.over (l:=[]) ho]]
 ((repeat (first|refine aJ ?_ | refine b5 ?_ | refine bJ ?_ | refine bF ?_));refine aS ?_)
 refine ia rfl trivial ?_
 ((repeat (first|refine aJ ?_ | refine b5 ?_ | refine bJ ?_ | refine bF ?_));refine aS ?_)
 refine ia rfl trivial ?_
 (repeat (first|refine aJ ?_ | refine bJ ?_ | refine bF ?_))
 refine ay (Ghost.nilreg (k:=1003) (t:=3) 164 12 1 rfl rfl) ?_
 repeat refine aa rfl ?_
 refine cg [(0,.sl (l.map eS)),(3,.als 1003 ((s.own 1003).1+1) 0 0),(4,I ((0:Nat):Int))] [(1,g1,R1),(1002,g02,R02),(1003,(s.own 1003).1+1,⟨164,12,[],1⟩)] ⟨rfl,rfl,rfl,rfl,rfl,rfl,trivial⟩ ?_
 generalize (s.own 1003).1+1=g
 intro s0
 refine am (fun x:Nat × Nat=>x.1≤l.length) (fun x=>[(0,.sl (l.map eS)),(3,.als 1003 x.2 0 (aX (bh (l.take x.1))).length),(4,I (x.1:Nat))]) (fun x=>[(1,g1,R1),(1002,g02,R02),(1003,x.2,⟨164,12,aX (bh (l.take x.1)),1⟩)]) (fun x=>l.length-x.1) (0,g) (Nat.zero_le _) ⟨rfl,rfl,rfl,rfl,rfl,rfl,trivial⟩ ?_
 rintro⟨i,g⟩ s1 hi
 dsimp only at hi ⊢
 repeat refine aa rfl ?_
 refine ab rfl ?_ ?_<;>intro h
 ·have hlt:i<l.length:=by have:=of_decide_eq_true h;simp only[hml]at this;omega
  clear h
  have hx:=aC (d:=dS) hlt
  have hs:=hl.1 _ (aB hlt)
  have h8:=hf.2 _ (aB hlt)
  have hsn:=sO hx
  have hci:=hcl i
  rw[List.length_take]at hci
  have hw:=gz i
  generalize l.getD i dS=S at *
  generalize bh (l.take i)=L0 at *
  have hmS:(S.k.S.map eN).length=S.k.S.length:=by simp
  have wx:=bk S.x hs.x
  repeat refine aa rfl ?_
  refine cg [(0,.sl (l.map eS)),(3,.als 1003 g 0 (aX L0).length),(4,I (i:Nat)),(5,I ((0:Nat):Int))] [(1,g1,R1),(1002,g02,R02),(1003,g,⟨164,12,aX L0,1⟩)] ⟨rfl,rfl,rfl,rfl,rfl,rfl,rfl,trivial⟩ ?_
  intro s2
  refine am (fun x:Nat × Nat=>x.1≤S.k.S.length) (fun x=>[(0,.sl (l.map eS)),(3,.als 1003 x.2 0 (aX (L0++(fD S).take x.1)).length),(4,I (i:Nat)),(5,I (x.1:Nat))]) (fun x=>[(1,g1,R1),(1002,g02,R02),(1003,x.2,⟨164,12,aX (L0++(fD S).take x.1),1⟩)]) (fun x=>S.k.S.length-x.1) (0,g) (Nat.zero_le _) ⟨rfl,by rw[List.take_zero,List.append_nil];rfl,rfl,rfl,rfl,rfl,by rw[List.take_zero,List.append_nil];rfl,trivial⟩ ?_
  rintro⟨k,g⟩ s3 hk
  dsimp only at hk ⊢
  repeat refine aa rfl ?_
  refine aZ rfl rfl rfl rfl rfl rfl rfl hx rfl ?_
  repeat refine aa rfl ?_
  refine ab rfl ?_ ?_<;>intro h
  ·have hlk:k<S.k.S.length:=by have:=of_decide_eq_true h;simp only[hmS]at this;omega
   clear h
   have hp:=aC (d:=(0:Int)) hlk
   have hst:=hs.k.s _ (List.mem_of_getElem? hp)
   have wn:=bk _ hst
   have zn:Zb (S.k.S.getD k 0):=aE hst.1 hst.2
   have dl:=iu (ofQ ((S.k.S.getD k 0:Int):Rat)) S.c (hx:=Vq.ofQ (h:=HQ.int)) (hy:=hs.c.v) (by decide) (by decide)
   have hck:=sP hlk
   have hcS:=kK S
   have hwk:IntKind.i64.wrap (((k:Nat):Int)+1)=((k+1:Nat):Int):=by rw[wrap_i64 (by omega) (by omega)];omega
   have hrow:aX (L0++(fD S).take (k+1))=aX (L0++(fD S).take k)++[eR (ofQ 1)++eR (ofQ (S.x:Rat))++eR (ofQ (((S.k.S.getD k 0:Int):Rat)-S.c.val))]:=by
    rw[hck,←List.append_assoc,aX,List.map_append]
    rfl
   have hlen:(aX (L0++(fD S).take k)).length≤1000:=by
    rw[List.length_map,List.length_append,List.length_take]
    omega
   generalize aX (L0++(fD S).take k)=W at *
   repeat refine aa rfl ?_
   refine bt [48,1003] [25,26,27] (by decide +kernel) ?_
   repeat refine aa rfl ?_
   refine ak rfl rfl rfl w1 rfl rfl ?_
   repeat refine aa rfl ?_
   refine aZ rfl rfl rfl rfl rfl rfl rfl hx rfl ?_
   repeat refine aa rfl ?_
   refine ak rfl rfl rfl wx rfl rfl ?_
   repeat refine aa rfl ?_
   refine aZ rfl rfl rfl rfl rfl rfl rfl hx rfl ?_
   repeat refine aa rfl ?_
   refine aZ rfl rfl rfl rfl rfl rfl rfl hp rfl ?_
   repeat refine aa rfl ?_
   refine ak rfl rfl rfl wn rfl rfl ?_
   repeat refine aa rfl ?_
   refine aZ rfl rfl rfl rfl rfl rfl rfl hx rfl ?_
   repeat refine aa rfl ?_
   refine ak rfl rfl rfl dl rfl rfl ?_
   repeat refine aa rfl ?_
   refine AT rfl rfl rfl (be 1 rfl rfl rfl rfl rfl rfl rfl rfl rfl rfl rfl (by repeat' constructor) rfl ⟨pW rfl,?_⟩)
   repeat refine aa rfl ?_
   refine AT rfl rfl rfl (bE 1 rfl rfl rfl rfl rfl rfl rfl rfl rfl rfl rfl (by repeat' constructor) (by intro row hr;first|(simp at hr;subst hr;rfl)|(simp at hr;obtain⟨_,_,rfl⟩:=hr;rfl)|simp at hr) rfl rfl (by simp;omega) (by simp;omega) ⟨pW rfl,?_⟩)
   repeat refine aa rfl ?_
   refine⟨(k+1,g+1),hlk,by simp only;omega,rfl,?_,rfl,congrArg I hwk,rfl,rfl,?_,trivial⟩
   ·dsimp only
    rw[hrow];rfl
   ·dsimp only
    rw[hrow];rfl
  ·have hge:k=S.k.S.length:=by have:=of_decide_eq_false h;simp only[hmS]at this;omega
   clear h
   subst hge
   have e:aX (L0++(fD S).take S.k.S.length)=aX (bh (l.take (i+1))):=by
    rw[hsn,←kK S,List.take_length]
   rw[e]
   repeat refine aa rfl ?_
   exact⟨(i+1,g),hlt,by simp only;omega,rfl,rfl,congrArg I hw,rfl,rfl,rfl,trivial⟩
 ·have hge:i=l.length:=by have:=of_decide_eq_false h;simp only[hml]at this;omega
  subst hge
  clear h
  rw[List.take_length]
  repeat refine aa rfl ?_
  exact lW rfl rfl (hK s1 g)
def rowP (p:Nat):List PV:=[I (p:Nat)]
theorem zz {ps:List Nat} {i:Nat} (h:i<ps.length) (v:Nat):(List.replicate i 0++ps.drop i).set i v=List.replicate i 0++v::ps.drop (i+1):=by
 rw[List.set_append_right _ _ (by simp),List.length_replicate,Nat.sub_self,List.drop_eq_getElem_cons h]
 rfl
theorem wF (ps:List Nat) (i:Nat):List.replicate i 0++0::ps.drop (i+1)=List.replicate (i+1) 0++ps.drop (i+1):=by
 rw[List.replicate_succ',List.append_assoc];rfl
theorem zu {ps:List Nat} {i:Nat} (h:i<ps.length):(List.replicate i 0++ps.drop i)[i]? = some (ps.getD i 0):=by
 rw[List.getElem?_append_right (by simp)]
 simp
 rw[List.getElem?_eq_getElem h];simp
theorem zy {ps:List Nat} {i:Nat} (h:i≤ps.length):(List.replicate i 0++ps.drop i).length=ps.length:=by
 rw[List.length_append,List.length_replicate,List.length_drop];omega
theorem r6 (L:List Nat) (i v:Nat):(L.map rowP).set i (rowP v)=(L.set i v).map rowP:=by rw[List.map_set]
theorem Ee {b:BR} {i:Nat} (h:i<b.l.length):(eo b).getD i 0=(b.l.getD i dS).k.S.length:=by
 rw[eo,List.getD_eq_getElem?_getD,List.getElem?_map,aC (d:=dS) h]
 rfl
theorem mY (b:BR):(eo b).length=b.l.length:=List.length_map _
set_option maxRecDepth 20000 in
theorem Bz {K:St→Prop} {s:St} {d g1 g02 gE gP:Nat} {R1 R02 RE:Cont} {x y:Operand} {tys:Array TypeId} {ty:TypeId} {pos:String} {af:Array Edge} (b:BR) (hb:b.Ok) (ps:List Nat) (hn:ps.length=b.l.length) (hp:∀i,i<b.l.length→iA ps i≤(bd b).n i)
  (hx:s.ev x = .agg (eB b)) (hy:s.ev y = .als 19 gP 0 ps.length) (ho:FitO s [(1,g1,R1),(1002,g02,R02),(1003,gE,RE),(19,gP,⟨3,1,ps.map rowP,0⟩)])
  (hK:∀s1:St,K (({ reg:=s.reg,own:=(s1.over [] [(1,g1,R1),(1002,g02,R02),(1003,gE,RE),(19,gP,⟨3,1,(gZ (eo b) ps).2.map rowP,0⟩)]).own }:St).putR d (.bool (gZ (eo b) ps).1))) :
  Sm Tryz.prog lay.get s ⟨some d,.call ⟨.value (.func 108),#[x,y],tys⟩,ty,pos,af,none⟩ K:=by
 have h12:=hb.few.1
 have h8:=hb.few.2
 have hyes:=fun i=>oB (eo b) ps i (by rw[mY,hn])
 have hno:=rB (eo b) ps (by rw[mY,hn])
 have hnl:=mY b
 have hat:=fun i (h:i<b.l.length)=>Ee h
 have hml:(b.l.map eS).length=b.l.length:=by simp
 refine cp layOk rfl rfl Tryz.func108 rfl (by decide) rfl rfl ?_
 show PWP _ _ _ _ (bC s (([x,y]:List Operand).map s.ev++[]))
 rw[show(([x,y]:List Operand).map s.ev++([]:List PV))=[.agg (eB b),.als 19 gP 0 ps.length] by simp[hx,hy]]
 rw[show bC s [.agg (eB b),.als 19 gP 0 ps.length]=bC (s.over [] [(1,g1,R1),(1002,g02,R02),(1003,gE,RE),(19,gP,⟨3,1,ps.map rowP,0⟩)]) [.agg (eB b),.als 19 gP 0 ps.length] by rw[Fit.over (l:=[]) ho]]
 repeat refine aa rfl ?_
 refine cg [(1,.als 19 gP 0 ps.length),(2,.ptr 2 ((s.own 2).1+1) 0 0),(5,I ((0:Nat):Int))] [(1,g1,R1),(1002,g02,R02),(1003,gE,RE),(19,gP,⟨3,1,ps.map rowP,0⟩),(2,(s.own 2).1+1,⟨29,6,[eB b],2⟩)] ⟨rfl,rfl,rfl,rfl,rfl,rfl,rfl,rfl,trivial⟩ ?_
 generalize (s.own 2).1+1=g2
 intro s0
 refine am (fun i:Nat=>i≤ps.length∧∀j,j<i→¬ps.getD j 0<(eo b).getD j 0) (fun i=>[(1,.als 19 gP 0 ps.length),(2,.ptr 2 g2 0 0),(5,I (i:Nat))]) (fun i=>[(1,g1,R1),(1002,g02,R02),(1003,gE,RE),(19,gP,⟨3,1,(List.replicate i 0++ps.drop i).map rowP,0⟩),(2,g2,⟨29,6,[eB b],2⟩)]) (fun i=>ps.length-i) 0 ⟨Nat.zero_le _,fun j hj=>absurd hj (by omega)⟩ ⟨rfl,rfl,rfl,rfl,rfl,rfl,rfl,rfl,trivial⟩ ?_
 rintro i s1 ⟨hi,hall⟩
 repeat refine aa rfl ?_
 refine ab rfl ?_ ?_<;>intro h
 ·have hlt:i<ps.length:=by have:=of_decide_eq_true h;omega
  clear h
  have hlb:i<b.l.length:=by omega
  have hx:=aC (d:=dS) hlb
  have hS8:=h8 _ (aB hlb)
  have hni:=hat i hlb
  have hpi:ps.getD i 0≤(b.l.getD i dS).k.S.length:=hp i hlb
  have hyes:=hyes i hall (by omega)
  have hg:=zu hlt
  have hset:=fun v=>zz hlt v
  have hz:=wF ps i
  have hPl:=zy hi
  have hrow:((List.replicate i 0++ps.drop i).map rowP)[i]? = some (rowP (ps.getD i 0)):=by rw[List.getElem?_map,hg];rfl
  have hml2:((List.replicate i 0++ps.drop i).map rowP).length=ps.length:=by rw[List.length_map,hPl]
  have hw:=gz i
  have hwp:IntKind.i64.wrap (((ps.getD i 0:Nat):Int)+1)=((ps.getD i 0+1:Nat):Int):=by rw[wrap_i64 (by omega) (by omega)];omega
  rw[hni]at hyes
  generalize b.l.getD i dS=S at *
  have hmS:(S.k.S.map eN).length=S.k.S.length:=by simp
  generalize hpe:ps.getD i 0=p at *
  generalize List.replicate i 0++ps.drop i=P at *
  repeat refine aa rfl ?_
  refine ah 13 [12,13,14,15,16,17,18,19,20,21,22,23,24] (by decide +kernel) ?_
  repeat refine aa rfl ?_
  refine sF rfl rfl rfl rfl rfl rfl rfl rfl rfl ?_
  rw[Int.toNat_natCast,Nat.zero_add i]
  refine bH rfl rfl (cW rfl rfl rfl hrow rfl) ?_
  repeat refine aa rfl ?_
  refine aZ rfl rfl rfl rfl rfl rfl rfl hx rfl ?_
  repeat refine aa rfl ?_
  refine ab rfl ?_ ?_<;>intro h
  ·have hlt2:p<S.k.S.length:=by have:=of_decide_eq_true h;simp only[hmS]at this;omega
   clear h
   have hyes:=hyes hlt2
   rw[hyes]at hK
   repeat refine aa rfl ?_
   refine sF rfl rfl rfl rfl rfl rfl rfl rfl rfl ?_
   rw[Int.toNat_natCast,Nat.zero_add i]
   refine bH rfl rfl (cW rfl rfl rfl hrow rfl) ?_
   repeat refine aa rfl ?_
   rw[hwp]
   refine sF rfl rfl rfl rfl rfl rfl rfl rfl rfl ?_
   rw[Int.toNat_natCast,Nat.zero_add i]
   refine bN (bL (kd':=0) rfl rfl rfl hrow rfl rfl (by repeat' constructor) rfl rfl rfl rfl ?_)
   rw[show(P.map rowP).set i (i6 (rowP p) 0 ((PV.int IntKind.i64 ((p+1:Nat):Int)).cells.map (dJ 0)))=(List.replicate i 0++(p+1)::ps.drop (i+1)).map rowP by rw[←hset,←r6];rfl]
   repeat refine aa rfl ?_
   exact mN (K:=fun o r=>K (({ reg:=s.reg,own:=o }:St).putR d r)) [(1,g1,R1),(1002,g02,R02),(1003,gE,RE),(19,gP,⟨3,1,(List.replicate i 0++(p+1)::ps.drop (i+1)).map rowP,0⟩)] (.inl rfl) rfl rfl ⟨rfl,rfl,rfl,rfl,trivial⟩ hK
  ·have hge:¬p<S.k.S.length:=by have:=of_decide_eq_false h;simp only[hmS]at this;omega
   clear h
   repeat refine aa rfl ?_
   refine sF rfl rfl rfl rfl rfl rfl rfl rfl rfl ?_
   rw[Int.toNat_natCast,Nat.zero_add i]
   refine bN (bL (kd':=0) rfl rfl rfl hrow rfl rfl (by repeat' constructor) rfl rfl rfl rfl ?_)
   rw[show(P.map rowP).set i (i6 (rowP p) 0 ((PV.int IntKind.i64 0).cells.map (dJ 0)))=(List.replicate (i+1) 0++ps.drop (i+1)).map rowP by rw[←hz,←hset,←r6];rfl]
   repeat refine aa rfl ?_
   refine⟨i+1,⟨hlt,fun j hj=>?_⟩,by omega,rfl,rfl,congrArg I hw,rfl,rfl,rfl,rfl,rfl,trivial⟩
   rcases Nat.lt_or_ge j i with h2|h2
   ·exact hall j h2
   ·rw[show j=i by omega,hni,hpe]
    exact hge
 ·have hge:i=ps.length:=by have:=of_decide_eq_false h;omega
  clear h
  subst hge
  have hno:=hno fun j hj=>hall j (by omega)
  rw[hno]at hK
  have e:(List.replicate ps.length 0++ps.drop ps.length).map rowP=(List.replicate (eo b).length 0).map rowP:=by rw[List.drop_length,List.append_nil,hnl,hn]
  rw[e]
  repeat refine aa rfl ?_
  exact mN (K:=fun o r=>K (({ reg:=s.reg,own:=o }:St).putR d r)) [(1,g1,R1),(1002,g02,R02),(1003,gE,RE),(19,gP,⟨3,1,(List.replicate (eo b).length 0).map rowP,0⟩)] (.inl rfl) rfl rfl ⟨rfl,rfl,rfl,rfl,trivial⟩ hK
section
variable (b:BR) (p:Nat→Nat)
def qz (i:Nat):Ln:=⟨ac ((bd b).k p) i,ac (fun j=>(bd b).k p j*(bd b).X j) i,(b.w:Rat)-ac (fun j=>(bd b).k p j*(bd b).C j-(bd b).o p j) i⟩
def qA (i:Nat):Ln:=⟨ac (fun j=>(bd b).k p j*(bd b).X j) i,ac (fun j=>(bd b).k p j*(bd b).X j*(bd b).X j) i,(b.w:Rat)*b.a.val-ac (fun j=>((bd b).k p j*(bd b).C j-(bd b).o p j)*(bd b).X j) i⟩
theorem Bj:qz b p b.l.length=cY b p:=rfl
theorem Bx:qA b p b.l.length=cf b p:=rfl
end
theorem DN {b:BR} (hb:b.Ok) {p:Nat→Nat} (hp:∀i,i<b.l.length→p i≤(bd b).n i) {i:Nat} (hi:i≤b.l.length):LnH (qz b p i)∧LnH (qA b p i):=by
 have h12:=hb.few.1
 have zw:Zb b.w:=aE hb.lim.w.1 hb.lim.w.2
 have hk:=fun j (hj:j<i)=>wc hb p (i:=j) (by omega)
 have hX:=fun j (hj:j<i)=>AP hb (i:=j) (by omega)
 have ho:=fun j (hj:j<i)=>y3 hb hp (i:=j) (by omega)
 have s1:=aK (m:=13) i hk
 have s2:=aK (m:=17) i fun j hj=>@HQ.mul _ _ 13 4 (hk j hj) (hX j hj)
 have s3:=aK (m:=21) i fun j hj=>@HQ.mul _ _ 17 4 (@HQ.mul _ _ 13 4 (hk j hj) (hX j hj)) (hX j hj)
 have s4:=(aK (m:=327) i ho).mono (m:=4100) (by omega)
 have s5:=(aK (m:=331) i fun j hj=>@HQ.mul _ _ 327 4 (ho j hj) (hX j hj)).mono (m:=4100) (by omega)
 exact⟨⟨s1.mono (by omega),s2.mono (by omega),(@HQ.sub _ _ 4 4100 (HQ.int (z:=b.w)) s4).mono (by decide)⟩,⟨s2.mono (by omega),s3.mono (by omega),(@HQ.sub _ _ 17 4100 (@HQ.mul _ _ 4 13 (HQ.int (z:=b.w)) hb.lim.a.v.hq) s5).mono (by decide)⟩⟩
theorem A1 {b:BR} {p:Nat→Nat} {i:Nat} (h:p i=0):qz b p (i+1)=qz b p i∧qA b p (i+1)=qA b p i:=by
 have hk:(bd b).k p i=0:=by rw[Bd.k,h];rfl
 have ho:(bd b).o p i=0:=by rw[Bd.o,h];rfl
 have e:∀f:Nat→Rat,f i=0→ac f (i+1)=ac f i:=fun f hf=>by
  show ac f i+f i=_
  rw[hf];grind
 rw[qz,qz,qA,qA,e _ hk,e (fun j=>(bd b).k p j*(bd b).X j) (by rw[hk];grind),e (fun j=>(bd b).k p j*(bd b).C j-(bd b).o p j) (by rw[hk,ho];grind),e (fun j=>(bd b).k p j*(bd b).X j*(bd b).X j) (by rw[hk];grind),e (fun j=>((bd b).k p j*(bd b).C j-(bd b).o p j)*(bd b).X j) (by rw[hk,ho];grind)]
 exact⟨rfl,rfl⟩
theorem AZ {b:BR} (hb:b.Ok) {p:Nat→Nat} {i q:Nat} (hi:i<b.l.length) (hq:p i=q+1) (hn:q<(b.l.getD i dS).k.S.length) {k x f:Rat} (hk:(b.l.getD i dS).k.m q=k) (hx:((b.l.getD i dS).x:Rat)=x)
  (hf:b7 (b.l.getD i dS).k.S.length (b.l.getD i dS).k.s (b.l.getD i dS).k.m ((b.l.getD i dS).k.s q)+k*((b.l.getD i dS).c.val-(b.l.getD i dS).k.s q)=f) :
  qz b p (i+1)=⟨(qz b p i).s+k,(qz b p i).t+k*x,(qz b p i).v-f⟩∧qA b p (i+1)=⟨(qA b p i).s+k*x,(qA b p i).t+k*(x*x),(qA b p i).v-f*x⟩:=by
 have hcrv:=(eG hb).crv i hi
 have hkk:(bd b).k p i=k:=by rw[Bd.k,hq];exact hk
 have hX:(bd b).X i=x:=hx
 have hv:=dF (y:=(b.l.getD i dS).k.s q) (p:=q+1) hcrv ⟨hn,fun j hj=>by cases hj;exact Rat.le_refl,fun h=>hcrv.mono_st (Nat.le_succ q) h⟩
 have hff:(bd b).k p i*(bd b).C i-(bd b).o p i=f:=by
  rw[←hf]
  have hv:b7 (b.l.getD i dS).k.S.length (b.l.getD i dS).k.s (b.l.getD i dS).k.m ((b.l.getD i dS).k.s q)=(b.l.getD i dS).k.m q*(b.l.getD i dS).k.s q-gc (b.l.getD i dS).k.s (b.l.getD i dS).k.m (q+1):=hv
  rw[hv,hkk,hk,Bd.o,hq]
  show k*(b.l.getD i dS).c.val-gc (b.l.getD i dS).k.s (b.l.getD i dS).k.m (q+1)=_
  grind
 constructor
 ·show(⟨ac ((bd b).k p) i+(bd b).k p i,ac (fun j=>(bd b).k p j*(bd b).X j) i+(bd b).k p i*(bd b).X i,(b.w:Rat)-(ac (fun j=>(bd b).k p j*(bd b).C j-(bd b).o p j) i+((bd b).k p i*(bd b).C i-(bd b).o p i))⟩:Ln)=_
  rw[hff,hkk,hX]
  simp only[qz]
  congr 1
  grind
 ·show(⟨ac (fun j=>(bd b).k p j*(bd b).X j) i+(bd b).k p i*(bd b).X i,ac (fun j=>(bd b).k p j*(bd b).X j*(bd b).X j) i+(bd b).k p i*(bd b).X i*(bd b).X i,(b.w:Rat)*b.a.val-(ac (fun j=>((bd b).k p j*(bd b).C j-(bd b).o p j)*(bd b).X j) i+((bd b).k p i*(bd b).C i-(bd b).o p i)*(bd b).X i)⟩:Ln)=_
  rw[hff,hkk,hX]
  simp only[qA]
  congr 1
  ·grind
  ·grind
abbrev DD:List PV:=zN++zN++zN
set_option maxRecDepth 20000 in
theorem sK {K:St→Prop} {s:St} {d g1 g02 gE gP g3:Nat} {R1 R02 RE R3:Cont} {x y:Operand} {tys:Array TypeId} {ty:TypeId} {pos:String} {af:Array Edge} (b:BR) (hb:b.Ok) (ps:List Nat) (hn:ps.length=b.l.length) (hp:∀i,i<b.l.length→iA ps i≤(bd b).n i)
  (hx:s.ev x = .agg (eB b)) (hy:s.ev y = .als 19 gP 0 ps.length) (ho:FitO s [(1,g1,R1),(1002,g02,R02),(1003,gE,RE),(19,gP,⟨3,1,ps.map rowP,0⟩),(3,g3,R3)])
  (hK:∀s1:St,K (({ reg:=s.reg,own:=(s1.over [] [(1,g1,R1),(1002,g02,R02),(1003,gE,RE),(19,gP,⟨3,1,ps.map rowP,0⟩),(3,g3,R3)]).own }:St).putR d (.tup [.agg (nX (cY b (iA ps))),.agg (nX (cf b (iA ps)))]))) :
  Sm Tryz.prog lay.get s ⟨some d,.call ⟨.value (.func 167),#[x,y],tys⟩,ty,pos,af,none⟩ K:=by
 have h12:=hb.few.1
 have w0:=fW
 have ww:=bk b.w hb.lim.w
 have zw:Zb b.w:=aE hb.lim.w.1 hb.lim.w.2
 have wa:=cd (ofQ (b.w:Rat)) b.a (hx:=Vq.ofQ (h:=HQ.int)) (hy:=hb.lim.a.v) (by decide) (by decide)
 have hml:(b.l.map eS).length=b.l.length:=by simp
 have hat:=fun i (hi:i≤b.l.length)=>DN hb hp hi
 have f0:qz b (iA ps) 0=⟨0,0,(b.w:Rat)⟩:=by
  rw[qz];congr 1
  show(b.w:Rat)-0=_
  grind
 have m0:qA b (iA ps) 0=⟨0,0,(b.w:Rat)*b.a.val⟩:=by
  rw[qA];congr 1
  show(b.w:Rat)*b.a.val-0=_
  grind
 refine cp layOk rfl rfl Tryz.func167 rfl (by decide) rfl rfl ?_
 show PWP _ _ _ _ (bC s (([x,y]:List Operand).map s.ev++[]))
 rw[show(([x,y]:List Operand).map s.ev++([]:List PV))=[.agg (eB b),.als 19 gP 0 ps.length] by simp[hx,hy]]
 rw[show bC s [.agg (eB b),.als 19 gP 0 ps.length]=bC (s.over [] [(1,g1,R1),(1002,g02,R02),(1003,gE,RE),(19,gP,⟨3,1,ps.map rowP,0⟩),(3,g3,R3)]) [.agg (eB b),.als 19 gP 0 ps.length] by rw[Fit.over (l:=[]) ho]]
 repeat refine aa rfl ?_
 refine ak rfl rfl rfl ww rfl rfl ?_
 repeat refine aa rfl ?_
 refine cg [(1,.als 19 gP 0 ps.length),(2,.ptr 2 ((s.own 2).1+1) 0 0),(4,.ptr 4 ((s.own 4).1+1) 0 0),(5,.ptr 5 ((s.own 5).1+1) 0 0),(6,.ptr 6 ((s.own 6).1+1) 0 0)] [(1,g1,R1),(1002,g02,R02),(1003,gE,RE),(19,gP,⟨3,1,ps.map rowP,0⟩),(3,g3,R3),(2,(s.own 2).1+1,⟨29,6,[eB b],2⟩),(4,(s.own 4).1+1,⟨164,12,[DD],2⟩),(5,(s.own 5).1+1,⟨164,12,[DD],2⟩),(6,(s.own 6).1+1,⟨26,4,[eR (ofQ (b.w:Rat))],2⟩)] ⟨rfl,rfl,rfl,rfl,rfl,rfl,rfl,rfl,rfl,rfl,rfl,rfl,rfl,rfl,trivial⟩ ?_
 generalize (s.own 2).1+1=g2
 generalize (s.own 4).1+1=g4
 generalize (s.own 5).1+1=g5
 generalize (s.own 6).1+1=g6
 intro s0
 refine ay (fE 7) ?_
 refine aU 4 1 [19,20,21,22,7] [] (by decide +kernel) rfl ?_
 repeat refine aa rfl ?_
 refine ak rfl rfl rfl w0 rfl rfl ?_
 repeat refine aa rfl ?_
 refine ak rfl rfl rfl w0 rfl rfl ?_
 repeat refine aa rfl ?_
 (repeat (first|refine aJ ?_ | refine bJ ?_ | refine bF ?_))
 refine ay (fE 8) ?_
 refine aU 7 1 [23,24,25,26,27,28,29,8] [] (by decide +kernel) rfl ?_
 repeat refine aa rfl ?_
 refine ak rfl rfl rfl w0 rfl rfl ?_
 repeat refine aa rfl ?_
 refine ak rfl rfl rfl w0 rfl rfl ?_
 repeat refine aa rfl ?_
 refine ak rfl rfl rfl wa rfl rfl ?_
 repeat refine aa rfl ?_
 refine cg [(1,.als 19 gP 0 ps.length),(2,.ptr 2 g2 0 0),(4,.ptr 4 g4 0 0),(5,.ptr 5 g5 0 0),(7,.ptr 7 ((s0.own 7).1+2+1) 0 0),(8,.ptr 8 ((s0.own 8).1+2+1) 0 0),(9,I ((0:Nat):Nat))] [(1,g1,R1),(1002,g02,R02),(1003,gE,RE),(19,gP,⟨3,1,ps.map rowP,0⟩),(3,g3,R3),(2,g2,⟨29,6,[eB b],2⟩),(4,g4,⟨164,12,[DD],2⟩),(5,g5,⟨164,12,[DD],2⟩),(7,(s0.own 7).1+2+1,⟨164,12,[nX ⟨0,0,(b.w:Rat)⟩],2⟩),(8,(s0.own 8).1+2+1,⟨164,12,[nX ⟨0,0,(b.w:Rat)*b.a.val⟩],2⟩)] ⟨rfl,rfl,rfl,rfl,rfl,rfl,rfl,rfl,rfl,rfl,rfl,rfl,rfl,rfl,rfl,rfl,rfl,trivial⟩ ?_
 generalize (s0.own 7).1+2+1=g7
 generalize (s0.own 8).1+2+1=g8
 intro s1
 refine am (fun i:Nat=>i≤ps.length) (fun i=>[(1,.als 19 gP 0 ps.length),(2,.ptr 2 g2 0 0),(4,.ptr 4 g4 0 0),(5,.ptr 5 g5 0 0),(7,.ptr 7 g7 0 0),(8,.ptr 8 g8 0 0),(9,I (i:Nat))]) (fun i=>[(1,g1,R1),(1002,g02,R02),(1003,gE,RE),(19,gP,⟨3,1,ps.map rowP,0⟩),(3,g3,R3),(2,g2,⟨29,6,[eB b],2⟩),(4,g4,⟨164,12,[DD],2⟩),(5,g5,⟨164,12,[DD],2⟩),(7,g7,⟨164,12,[nX (qz b (iA ps) i)],2⟩),(8,g8,⟨164,12,[nX (qA b (iA ps) i)],2⟩)]) (fun i=>ps.length-i) 0 (Nat.zero_le _) ⟨rfl,rfl,rfl,rfl,rfl,rfl,rfl,rfl,rfl,rfl,rfl,rfl,rfl,rfl,rfl,by rw[f0];rfl,by rw[m0];rfl,trivial⟩ ?_
 intro i s2 hi
 repeat refine aa rfl ?_
 refine ab rfl ?_ ?_<;>intro h
 ·have hlt:i<ps.length:=by have:=of_decide_eq_true h;omega
  clear h
  have hlb:i<b.l.length:=by omega
  have hrow:(ps.map rowP)[i]? = some (rowP (ps.getD i 0)):=by rw[List.getElem?_map,aC (d:=(0:Nat)) hlt];rfl
  have hpi:ps.getD i 0≤(b.l.getD i dS).k.S.length:=hp i hlb
  have hw:=gz i
  have hzero:=A1 (b:=b) (p:=iA ps) (i:=i)
  have hnext:=fun q=>AZ hb (p:=iA ps) (q:=q) hlb
  obtain⟨hF,hM⟩:=hat i (by omega)
  rw[show iA ps i=ps.getD i 0 from rfl]at hzero hnext
  have hx:=aC (d:=dS) hlb
  have hs:=hb.lim.l.1 _ (aB hlb)
  have hc0:=bu hb.chkL _ (aB hlb)
  have h8:=hb.few.2 _ (aB hlb)
  generalize hp0:ps.getD i 0=p at *
  generalize b.l.getD i dS=S at *
  repeat refine aa rfl ?_
  refine sF rfl rfl rfl rfl rfl rfl rfl rfl rfl ?_
  rw[Int.toNat_natCast,Nat.zero_add i]
  refine bH rfl rfl (cW rfl rfl rfl hrow rfl) ?_
  repeat refine aa rfl ?_
  refine ab rfl ?_ ?_<;>intro h
  ·have hz:p=0:=by have:=of_decide_eq_true h;omega
   clear h
   obtain⟨e1,e2⟩:=hzero hz
   repeat refine aa rfl ?_
   refine⟨i+1,hlt,by omega,rfl,rfl,rfl,rfl,rfl,rfl,congrArg I hw,rfl,rfl,rfl,rfl,rfl,rfl,rfl,rfl,?_,?_,trivial⟩
   ·rw[e1];rfl
   ·rw[e2];rfl
  ·have hz:¬p=0:=by have:=of_decide_eq_false h;omega
   clear h
   obtain⟨q,rfl⟩:∃q,p=q+1:=⟨p-1,by omega⟩
   have hwq:IntKind.i64.wrap (((q+1:Nat):Int)-1)=(q:Nat):=by rw[wrap_i64 (by omega) (by omega)];omega
   obtain⟨-,hSM,-,-⟩:=bP hc0
   have hqm:q<S.k.M.length:=by omega
   have hqs:q<S.k.S.length:=by omega
   have hm:=aC (d:=RR.zero) hqm
   have hst:=aC (d:=(0:Int)) hqs
   have hsz:=hs.k.s _ (List.mem_of_getElem? hst)
   obtain⟨n1,n2⟩:=hnext q rfl hqs rfl rfl rfl
   have kv:=pQ S.k hs.k q
   have zx:Zb S.x:=aE hs.x.1 hs.x.2
   have wx:=bk S.x hs.x
   have wn:=bk _ hsz
   have zn:Zb (S.k.S.getD q 0):=aE hsz.1 hsz.2
   have est:S.k.s q=((S.k.S.getD q 0:Int):Rat):=rfl
   rw[est]at n1 n2
   generalize hn0:S.k.S.getD q 0=n at *
   generalize hk0:S.k.m q=k at *
   have hval:HQ (b7 S.k.S.length S.k.s S.k.m (n:Rat)) 1000:=(aK S.k.S.length fun j _=>qc hs.k (HQ.int (z:=n)) j).mono (by omega)
   have cF:=jD S.k hs.k hc0 (ofQ (n:Rat)) (hy:=Vq.ofQ (h:=HQ.int)) (by decide)
   have hd1:HQ (S.c.val-(n:Rat)) 18:=@HQ.sub _ _ 13 4 hs.c.v.hq (HQ.int (z:=n))
   have d1:=iu S.c (ofQ (n:Rat)) (hx:=hs.c.v) (hy:=Vq.ofQ (h:=HQ.int)) (by decide) (by decide)
   have d2:=cd (S.k.M.getD q RR.zero) (ofQ (S.c.val-(n:Rat))) (hx:=kv) (hy:=Vq.ofQ (h:=hd1)) (by decide) (by decide)
   have hkh:HQ k 13:=kv.hq
   have hd2:HQ (k*(S.c.val-(n:Rat))) 31:=@HQ.mul _ _ 13 18 hkh hd1
   have d3:=c7 (ofQ (b7 S.k.S.length S.k.s S.k.m (n:Rat))) (ofQ (k*(S.c.val-(n:Rat)))) (hx:=Vq.ofQ (h:=hval)) (hy:=Vq.ofQ (h:=hd2)) (by decide) (by decide)
   have hf:HQ (b7 S.k.S.length S.k.s S.k.m (n:Rat)+k*(S.c.val-(n:Rat))) 1032:=@HQ.add _ _ 1000 31 hval hd2
   generalize b7 S.k.S.length S.k.s S.k.m (n:Rat)+k*(S.c.val-(n:Rat))=f at *
   have hxh:HQ (S.x:Rat) 4:=HQ.int
   have e1:=c7 (ofQ (qz b (iA ps) i).s) (S.k.M.getD q RR.zero) (hx:=Vq.ofQ (h:=hF.s)) (hy:=kv) (by decide) (by decide)
   have e2:=cd (S.k.M.getD q RR.zero) (ofQ (S.x:Rat)) (hx:=kv) (hy:=Vq.ofQ (h:=hxh)) (by decide) (by decide)
   have e3:=c7 (ofQ (qz b (iA ps) i).t) (ofQ (k*(S.x:Rat))) (hx:=Vq.ofQ (h:=hF.t)) (hy:=Vq.ofQ (h:=@HQ.mul _ _ 13 4 hkh hxh)) (by decide) (by decide)
   have e4:=iu (ofQ (qz b (iA ps) i).v) (ofQ f) (hx:=Vq.ofQ (h:=hF.v)) (hy:=Vq.ofQ (h:=hf)) (by decide) (by decide)
   have e5:=c7 (ofQ (qA b (iA ps) i).s) (ofQ (k*(S.x:Rat))) (hx:=Vq.ofQ (h:=hM.s)) (hy:=Vq.ofQ (h:=@HQ.mul _ _ 13 4 hkh hxh)) (by decide) (by decide)
   have e6:=cd (ofQ (S.x:Rat)) (ofQ (S.x:Rat)) (hx:=Vq.ofQ (h:=hxh)) (hy:=Vq.ofQ (h:=hxh)) (by decide) (by decide)
   have e7:=cd (S.k.M.getD q RR.zero) (ofQ ((S.x:Rat)*(S.x:Rat))) (hx:=kv) (hy:=Vq.ofQ (h:=@HQ.mul _ _ 4 4 hxh hxh)) (by decide) (by decide)
   have e8:=c7 (ofQ (qA b (iA ps) i).t) (ofQ (k*((S.x:Rat)*(S.x:Rat)))) (hx:=Vq.ofQ (h:=hM.t)) (hy:=Vq.ofQ (h:=@HQ.mul _ _ 13 8 hkh (@HQ.mul _ _ 4 4 hxh hxh))) (by decide) (by decide)
   have e9:=cd (ofQ f) (ofQ (S.x:Rat)) (hx:=Vq.ofQ (h:=hf)) (hy:=Vq.ofQ (h:=hxh)) (by decide) (by decide)
   have e10:=iu (ofQ (qA b (iA ps) i).v) (ofQ (f*(S.x:Rat))) (hx:=Vq.ofQ (h:=hM.v)) (hy:=Vq.ofQ (h:=@HQ.mul _ _ 1032 4 hf hxh)) (by decide) (by decide)
   generalize hF0:qz b (iA ps) i=F at *
   generalize hM0:qA b (iA ps) i=M at *
   clear hzero hnext hat hF hM kv zx zn hval hd1 hkh hd2 hf hxh hs hc0
   repeat refine aa rfl ?_
   refine fq [(10,10),(11,10)] (by decide +kernel) (by decide +kernel) ?_
   repeat refine aa rfl ?_
   refine aZ rfl rfl rfl rfl rfl rfl rfl hx rfl ?_
   repeat refine aa rfl ?_
   refine sF rfl rfl rfl rfl rfl rfl rfl rfl rfl ?_
   rw[Int.toNat_natCast,Nat.zero_add i]
   refine bH rfl rfl (cW rfl rfl rfl hrow rfl) ?_
   repeat refine aa rfl ?_
   rw[hwq]
   refine CL rfl rfl rfl rfl rfl ?_
   refine CM 2 rfl rfl rfl rfl rfl rfl (fun _=>rfl) (by repeat' constructor) rfl rfl rfl rfl ?_
   repeat refine aa rfl ?_
   refine fq [(9,12),(10,13),(11,12),(12,13)] (by decide +kernel) (by decide +kernel) ?_
   repeat refine aa rfl ?_
   refine aZ rfl rfl rfl rfl rfl rfl rfl hm rfl ?_
   repeat refine aa rfl ?_
   refine ak rfl rfl rfl wx rfl rfl ?_
   repeat refine aa rfl ?_
   refine CL rfl rfl rfl rfl rfl ?_
   refine CL rfl rfl rfl rfl rfl ?_
   refine CM 2 rfl rfl rfl rfl rfl rfl (fun _=>rfl) (by repeat' constructor) rfl rfl rfl rfl ?_
   refine CM 2 rfl rfl rfl rfl rfl rfl (fun _=>rfl) (by repeat' constructor) rfl rfl rfl rfl ?_
   repeat refine aa rfl ?_
   refine aZ rfl rfl rfl rfl rfl rfl rfl hst rfl ?_
   repeat refine aa rfl ?_
   refine ak rfl rfl rfl wn rfl rfl ?_
   repeat refine aa rfl ?_
   refine fq [(11,15),(12,15)] (by decide +kernel) (by decide +kernel) ?_
   repeat refine aa rfl ?_
   refine ak rfl rfl rfl cF rfl rfl ?_
   repeat refine aa rfl ?_
   refine ak rfl rfl rfl d1 rfl rfl ?_
   repeat refine aa rfl ?_
   refine ak rfl rfl rfl d2 rfl rfl ?_
   repeat refine aa rfl ?_
   refine ak rfl rfl rfl d3 rfl rfl ?_
   repeat refine aa rfl ?_
   refine CL rfl rfl rfl rfl rfl ?_
   refine CM 2 rfl rfl rfl rfl rfl rfl (fun _=>rfl) (by repeat' constructor) rfl rfl rfl rfl ?_
   repeat refine aa rfl ?_
   refine ah 15 [78,79,80,81,82,83,84,85,86,87,88,89,90,91,92] (by decide +kernel) ?_
   repeat refine aa rfl ?_
   refine ak rfl rfl rfl e1 rfl rfl ?_
   repeat refine aa rfl ?_
   refine ak rfl rfl rfl e2 rfl rfl ?_
   repeat refine aa rfl ?_
   refine ak rfl rfl rfl e3 rfl rfl ?_
   repeat refine aa rfl ?_
   refine ak rfl rfl rfl e4 rfl rfl ?_
   repeat refine aa rfl ?_
   refine ah 21 [93,94,95,96,97,98,99,100,101,102,103,104,105,106,107,108,109,110,111,112,113] (by decide +kernel) ?_
   repeat refine aa rfl ?_
   refine ak rfl rfl rfl e2 rfl rfl ?_
   repeat refine aa rfl ?_
   refine ak rfl rfl rfl e5 rfl rfl ?_
   repeat refine aa rfl ?_
   refine ak rfl rfl rfl e6 rfl rfl ?_
   repeat refine aa rfl ?_
   refine ak rfl rfl rfl e7 rfl rfl ?_
   repeat refine aa rfl ?_
   refine ak rfl rfl rfl e8 rfl rfl ?_
   repeat refine aa rfl ?_
   refine ak rfl rfl rfl e9 rfl rfl ?_
   repeat refine aa rfl ?_
   refine ak rfl rfl rfl e10 rfl rfl ?_
   repeat refine aa rfl ?_
   refine⟨i+1,hlt,by omega,rfl,rfl,rfl,rfl,rfl,rfl,congrArg I hw,rfl,rfl,rfl,rfl,rfl,rfl,rfl,rfl,?_,?_,trivial⟩
   ·rw[n1];rfl
   ·rw[n2];rfl
 ·have hge:i=ps.length:=by have:=of_decide_eq_false h;omega
  clear h
  subst hge
  rw[hn,Bj,Bx]
  generalize cY b (iA ps)=F at *
  generalize cf b (iA ps)=M at *
  repeat refine aa rfl ?_
  refine bt [4,5] [2,3] (by decide +kernel) ?_
  repeat refine aa rfl ?_
  exact yZ (K:=fun o r=>K (({ reg:=s.reg,own:=o }:St).putR d r)) [(1,g1,R1),(1002,g02,R02),(1003,gE,RE),(19,gP,⟨3,1,ps.map rowP,0⟩),(3,g3,R3)] rfl (by repeat' constructor) rfl ⟨rfl,rfl,rfl,rfl,rfl,trivial⟩ hK
theorem lY {a c:Ln} (ha:LnH a) (hc:LnH c):Ret Tryz.prog .shared 111 [.agg (nX a),.agg (nX c)] (.tup [.agg (eA (EA (Bd.cross a c))),.bool (Bd.cross a c).isSome]):=by
 have v:∀ {q:Rat} {n:Nat},HQ q n→n≤4200→Vq (ofQ q) q 4200:=fun h hn=>Vq.ofQ (h:=h.mono hn)
 have h:=wQ _ _ _ _ _ _ (v ha.s (by decide)) (v ha.t (by decide)) (v ha.v (by decide)) (v hc.s (by decide)) (v hc.t (by decide)) (v hc.v (by decide)) (by decide)
 have e:uB a.s a.t a.v c.s c.t c.v=Bd.cross a c:=rfl
 rw[e]at h
 cases hx:Bd.cross a c with
 |none=>rw[hx]at h;exact h.weak (WeakL.refl _) (WeakL.tup (.cons fM.agg (WeakL.refl _)))
 |some p=>rw[hx]at h;exact h
theorem rQ {P:Program} {L:Lay} {ops:Array Oper} {K:St→Prop} {f i j k:Nat} {o o2 o3:Oper} {listed:Array Bool} {s:St} (hr:Region.ready .any ops listed=[i,j,k]) (ho:ops[i]? = some o) (ho2:ops[j]? = some o2) (ho3:ops[k]? = some o3)
  (h:PSem P L ops (PTree P L ops K f (listed.setIfInBounds i true)) [o] s) (h2:PSem P L ops (PTree P L ops K f (listed.setIfInBounds j true)) [o2] s) (h3:PSem P L ops (PTree P L ops K f (listed.setIfInBounds k true)) [o3] s):PTree P L ops K (f+1) listed s :=
 ⟨fun e=>(by rw[e]at hr;cases hr),fun q hq=>by
  rw[hr]at hq
  simp at hq
  rcases hq with rfl|rfl|rfl
  ·exact⟨o,ho,h⟩
  ·exact⟨o2,ho2,h2⟩
  ·exact⟨o3,ho3,h3⟩⟩
def eP (a:Rat × Rat):List PV:=eA ⟨ofQ a.1,ofQ a.2⟩
theorem AL {F M e:Ln} {l:List Ln} {i:Nat} (h:l[i]? = some e):(l.take (i+1)).flatMap (ku F M)=(l.take i).flatMap (ku F M)++(Bd.cross F e).toList++(Bd.cross M e).toList:=by
 rw[bY h,List.flatMap_append]
 simp[ku]
theorem pY {α:Type} (o:Option α):o.toList.length≤1:=by cases o<;>simp
theorem sx (F M:Ln) (l:List Ln):(l.flatMap (ku F M)).length≤l.length*2:=io _ 2 l fun e _=>by
 rw[ku,List.length_append]
 have:=pY (Bd.cross F e)
 have:=pY (Bd.cross M e)
 omega
set_option maxRecDepth 20000 in
theorem nT {K:St→Prop} {s:St} {d g1 g02 gE gP:Nat} {R1 R02:Cont} {x y v:Operand} {tys:Array TypeId} {ty:TypeId} {pos:String} {af:Array Edge} (b:BR) (hb:b.Ok) (ps:List Nat) (hn:ps.length=b.l.length) (hp:∀i,i<b.l.length→iA ps i≤(bd b).n i)
  (E:List Ln) (hE:∀e∈E,LnH e) (hEl:E.length≤1000)
  (hx:s.ev x = .agg (eB b)) (hy:s.ev y = .als 19 gP 0 ps.length) (hv:s.ev v = .als 1003 gE 0 (aX E).length) (ho:FitO s [(1,g1,R1),(1002,g02,R02),(1003,gE,⟨164,12,aX E,1⟩),(19,gP,⟨3,1,ps.map rowP,0⟩)])
  (hK:∀s1:St,K (({ reg:=s.reg,own:=(s1.over [] [(1,g1,R1),(1002,g02,R02),(1003,gE,⟨164,12,aX E,1⟩),(19,gP,⟨3,1,ps.map rowP,0⟩)]).own }:St).putR d (.sl ((fB (cY b (iA ps)) (cf b (iA ps)) E).map eP)))) :
  Sm Tryz.prog lay.get s ⟨some d,.call ⟨.value (.func 109),#[x,y,v],tys⟩,ty,pos,af,none⟩ K:=by
 have h12:=hb.few.1
 have w0:=fW
 have w1:=ub
 have hF:=uy hb hp
 have hM:=ry hb hp
 have mm:=lY hF hM
 refine cp layOk rfl rfl Tryz.func109 rfl (by decide) rfl rfl ?_
 show PWP _ _ _ _ (bC s (([x,y,v]:List Operand).map s.ev++[]))
 rw[show(([x,y,v]:List Operand).map s.ev++([]:List PV))=[.agg (eB b),.als 19 gP 0 ps.length,.als 1003 gE 0 (aX E).length] by simp[hx,hy,hv]]
 rw[show bC s [.agg (eB b),.als 19 gP 0 ps.length,.als 1003 gE 0 (aX E).length]=bC (s.over [] [(1,g1,R1),(1002,g02,R02),(1003,gE,⟨164,12,aX E,1⟩),(19,gP,⟨3,1,ps.map rowP,0⟩)]) [.agg (eB b),.als 19 gP 0 ps.length,.als 1003 gE 0 (aX E).length] by rw[Fit.over (l:=[]) ho]]
 ((repeat ((fail_if_success (with_reducible refine aT 2 ?_));refine dh rfl ?_));refine aG 2 ?_)
 iterate 2 refine aa rfl ?_
 refine aJ ?_
 refine a_ rfl (sK (g1:=g1) (g02:=g02) (gE:=gE) (gP:=gP) b hb ps hn hp rfl rfl ⟨rfl,rfl,rfl,rfl,rfl,trivial⟩ fun s1=>?_)
 refine aM ?_
 generalize cY b (iA ps)=F at *
 generalize cf b (iA ps)=M at *
 cases hc:Bd.cross F M with
 |some a =>
  have ec:fB F M E=[a]:=by rw[fB,hc]
  rw[ec]at hK
  rw[hc]at mm
  repeat refine aa rfl ?_
  refine ak rfl rfl rfl mm rfl rfl ?_
  (repeat ((fail_if_success (with_reducible refine aT 5 ?_));refine dh rfl ?_))
  refine ay (Ghost.nilreg (k:=1007) (t:=7) 33 8 1 rfl rfl) ?_
  repeat refine aa rfl ?_
  refine ar (be 1 rfl rfl rfl rfl rfl rfl rfl rfl rfl rfl rfl (by repeat' constructor) rfl ?_)
  repeat refine aa rfl ?_
  refine ar (bE 1 rfl rfl rfl rfl rfl rfl rfl rfl rfl rfl rfl (by repeat' constructor) (by intro row hr;simp at hr;subst hr;rfl) rfl rfl (by simp) (by simp) ?_)
  (repeat ((fail_if_success (with_reducible refine jA ?_));refine dh rfl ?_))
  refine ay (Ghost.takeD (k:=1007) (t:=6) rfl rfl rfl) ?_
  repeat refine aa rfl ?_
  exact mN (K:=fun o r=>K (({ reg:=s.reg,own:=o }:St).putR d r)) [(1,g1,R1),(1002,g02,R02),(1003,gE,⟨164,12,aX E,1⟩),(19,gP,⟨3,1,ps.map rowP,0⟩)] (.inl rfl) rfl rfl ⟨rfl,rfl,rfl,rfl,trivial⟩ hK
 |none =>
  rw[hc]at mm
  have ec:fB F M E=(E++[Bd.flat]).flatMap (ku F M):=by rw[fB,hc]
  rw[ec]at hK
  repeat refine aa rfl ?_
  refine ak rfl rfl rfl mm rfl rfl ?_
  repeat refine aa rfl ?_
  refine ak rfl rfl rfl w0 rfl rfl ?_
  repeat refine aa rfl ?_
  refine ak rfl rfl rfl w1 rfl rfl ?_
  repeat refine aa rfl ?_
  refine ak rfl rfl rfl w0 rfl rfl ?_
  repeat refine aa rfl ?_
  (repeat (first|refine aJ ?_ | refine bJ ?_ | refine bF ?_))
  refine rS (fun _:Nat × Nat × Nat=>True) (fun q=>[(2,.als 39 q.1 0 ([]++aX E++[nX Bd.flat]).length),(7,.nil),(8,.ptr 8 q.2.1 0 0),(9,.ptr 9 q.2.2 0 0)]) (fun q=>[(1,g1,R1),(1002,g02,R02),(1003,gE,⟨164,12,aX E,1⟩),(19,gP,⟨3,1,ps.map rowP,0⟩),(39,q.1,⟨164,12,[]++aX E++[nX Bd.flat],1⟩),(8,q.2.1,⟨164,12,[nX F],2⟩),(9,q.2.2,⟨164,12,[nX M],2⟩)]) ?_ (fun q _ s2=>?_)
  ·refine BQ ?_
   iterate 7 all_goals ((first
    |refine jx (i:=0) (by decide +kernel) rfl ?_
    |refine jx (i:=1) (by decide +kernel) rfl ?_
    |refine jx (i:=2) (by decide +kernel) rfl ?_
    |refine jx (i:=3) (by decide +kernel) rfl ?_
    |refine jx (i:=4) (by decide +kernel) rfl ?_
    |refine jx (i:=5) (by decide +kernel) rfl ?_
    |refine jx (i:=6) (by decide +kernel) rfl ?_
    |refine jy (i:=0) (j:=1) (by decide +kernel) rfl rfl ?_ ?_
    |refine jy (i:=0) (j:=3) (by decide +kernel) rfl rfl ?_ ?_
    |refine jy (i:=1) (j:=3) (by decide +kernel) rfl rfl ?_ ?_
    |refine jy (i:=0) (j:=4) (by decide +kernel) rfl rfl ?_ ?_
    |refine jy (i:=1) (j:=4) (by decide +kernel) rfl rfl ?_ ?_
    |refine jy (i:=2) (j:=3) (by decide +kernel) rfl rfl ?_ ?_
    |refine jy (i:=2) (j:=4) (by decide +kernel) rfl rfl ?_ ?_
    |refine rQ (i:=0) (j:=1) (k:=3) (by decide +kernel) rfl rfl rfl ?_ ?_ ?_
    |refine rQ (i:=0) (j:=1) (k:=4) (by decide +kernel) rfl rfl rfl ?_ ?_ ?_
    )<;>(refine aM ?_;(first|refine aa rfl ?_ | refine ar (be 1 rfl rfl rfl rfl rfl rfl rfl rfl rfl rfl rfl (by repeat' constructor) rfl ?_)|refine ar (bE 1 rfl rfl rfl rfl rfl rfl rfl rfl rfl rfl rfl (by repeat' constructor) (by intro row hr;first|(simp at hr;subst hr;rfl)|(simp at hr;obtain⟨_,_,rfl⟩:=hr;rfl)) rfl rfl (by simp;omega) (by simp;omega) ?_));refine aJ ?_))
   all_goals (refine⟨by decide +kernel,bJ ?_⟩;exact⟨(_,_,_),trivial,rfl,rfl,rfl,rfl,rfl,rfl,rfl,rfl,rfl,rfl,rfl,trivial⟩)
  rw[show []++aX E++[nX Bd.flat]=aX (E++[Bd.flat]) by simp[aX]]
  obtain⟨g39,g8,g9⟩:=q
  dsimp only
  have hE2:∀e∈E++[Bd.flat],LnH e:=fun e he=>by
   rcases List.mem_append.1 he with he|he
   ·exact hE e he
   ·rw[List.mem_singleton.1 he];exact pJ
  have hEl2:(E++[Bd.flat]).length≤1001:=by rw[List.length_append];simp;omega
  generalize E++[Bd.flat]=E' at *
  have hmE:(aX E').length=E'.length:=List.length_map _
  refine ay (Ghost.takeD (k:=39) (t:=2) rfl rfl rfl) ?_
  refine ay (Ghost.nilreg (k:=1007) (t:=7) 33 8 1 rfl rfl) ?_
  repeat refine aa rfl ?_
  refine cg [(2,.sl (aX E')),(7,.als 1007 ((s2.own 1007).1+1) 0 (([]:List (Rat × Rat)).map eP).length),(8,.ptr 8 g8 0 0),(9,.ptr 9 g9 0 0),(13,I ((0:Nat):Nat))] [(1,g1,R1),(1002,g02,R02),(1003,gE,⟨164,12,aX E,1⟩),(19,gP,⟨3,1,ps.map rowP,0⟩),(8,g8,⟨164,12,[nX F],2⟩),(9,g9,⟨164,12,[nX M],2⟩),(1007,(s2.own 1007).1+1,⟨33,8,([]:List (Rat × Rat)).map eP,1⟩)] ⟨rfl,rfl,rfl,rfl,rfl,rfl,rfl,rfl,rfl,rfl,rfl,rfl,trivial⟩ ?_
  generalize (s2.own 1007).1+1=g
  intro s3
  refine am (fun q:Nat × Nat=>q.1≤E'.length) (fun q=>[(2,.sl (aX E')),(7,.als 1007 q.2 0 (((E'.take q.1).flatMap (ku F M)).map eP).length),(8,.ptr 8 g8 0 0),(9,.ptr 9 g9 0 0),(13,I (q.1:Nat))]) (fun q=>[(1,g1,R1),(1002,g02,R02),(1003,gE,⟨164,12,aX E,1⟩),(19,gP,⟨3,1,ps.map rowP,0⟩),(8,g8,⟨164,12,[nX F],2⟩),(9,g9,⟨164,12,[nX M],2⟩),(1007,q.2,⟨33,8,((E'.take q.1).flatMap (ku F M)).map eP,1⟩)]) (fun q=>E'.length-q.1) (0,g) (Nat.zero_le _) ⟨rfl,rfl,rfl,rfl,rfl,rfl,rfl,rfl,rfl,rfl,rfl,rfl,trivial⟩ ?_
  rintro⟨i,g⟩ s4 hi
  dsimp only at hi ⊢
  repeat refine aa rfl ?_
  refine ab rfl ?_ ?_<;>intro h
  ·have hlt:i<E'.length:=by have:=of_decide_eq_true h;simp only[hmE]at this;omega
   clear h
   obtain⟨e,he⟩:=aL hlt
   have heh:=hE2 e (List.mem_of_getElem? he)
   have m1:=lY hF heh
   have m2:=lY hM heh
   have hsn:=AL (F:=F) (M:=M) he
   have hL:((E'.take i).flatMap (ku F M)).length≤2002:=by
    have:=sx F M (E'.take i)
    rw[List.length_take]at this
    omega
   have hw:=gz i
   generalize (E'.take i).flatMap (ku F M)=L at *
   generalize Bd.cross F e=o1 at *
   generalize Bd.cross M e=o2 at *
   repeat refine aa rfl ?_
   refine fq [(9,14),(10,14)] (by decide +kernel) (by decide +kernel) ?_
   repeat refine aa rfl ?_
   refine aZ rfl rfl rfl rfl rfl rfl rfl he rfl ?_
   repeat refine aa rfl ?_
   refine ak rfl rfl rfl m1 rfl rfl ?_
   repeat refine aa rfl ?_
   refine CL rfl rfl rfl rfl rfl ?_
   refine CM 2 rfl rfl rfl rfl rfl rfl (fun _=>rfl) (by repeat' constructor) rfl rfl rfl rfl ?_
   repeat refine aa rfl ?_
   refine rS (fun _:Nat=>True) (fun g'=>[(2,.sl (aX E')),(7,.als 1007 g' 0 ((L++o1.toList).map eP).length),(8,.ptr 8 g8 0 0),(9,.ptr 9 g9 0 0),(13,I (i:Nat))]) (fun g'=>[(1,g1,R1),(1002,g02,R02),(1003,gE,⟨164,12,aX E,1⟩),(19,gP,⟨3,1,ps.map rowP,0⟩),(8,g8,⟨164,12,[nX F],2⟩),(9,g9,⟨164,12,[nX M],2⟩),(1007,g',⟨33,8,(L++o1.toList).map eP,1⟩)]) ?_ (fun g' _ s5=>?_)
   ·refine ab rfl ?_ ?_<;>intro h
    ·cases o1 with
     |none=>cases h
     |some a =>
      clear h
      have hr:(L++(some a).toList).map eP=L.map eP++[eP a]:=by simp
      rw[hr]
      repeat refine aa rfl ?_
      refine ar (be 1 rfl rfl rfl rfl rfl rfl rfl rfl rfl rfl rfl (by repeat' constructor) rfl ?_)
      repeat refine aa rfl ?_
      refine ar (bE 1 rfl rfl rfl rfl rfl rfl rfl rfl rfl rfl rfl (by repeat' constructor) (by intro row hr;first|(simp at hr;subst hr;rfl)|simp at hr) rfl rfl (by simp;omega) (by simp;omega) ?_)
      repeat refine aa rfl ?_
      exact⟨g+1,trivial,rfl,rfl,rfl,rfl,rfl,rfl,rfl,rfl,rfl,rfl,rfl,rfl,trivial⟩
    ·cases o1 with
     |some a=>cases h
     |none =>
      clear h
      have hr:(L++(none:Option (Rat × Rat)).toList).map eP=L.map eP:=by simp
      rw[hr]
      repeat refine aa rfl ?_
      exact⟨g,trivial,rfl,rfl,rfl,rfl,rfl,rfl,rfl,rfl,rfl,rfl,rfl,rfl,trivial⟩
   have hL2:(L++o1.toList).length≤2003:=by
    have:=pY o1
    rw[List.length_append];omega
   generalize L++o1.toList=L2 at *
   repeat refine aa rfl ?_
   refine fq [(9,16),(10,16)] (by decide +kernel) (by decide +kernel) ?_
   repeat refine aa rfl ?_
   refine aZ rfl rfl rfl rfl rfl rfl rfl he rfl ?_
   repeat refine aa rfl ?_
   refine ak rfl rfl rfl m2 rfl rfl ?_
   repeat refine aa rfl ?_
   refine CL rfl rfl rfl rfl rfl ?_
   refine CM 2 rfl rfl rfl rfl rfl rfl (fun _=>rfl) (by repeat' constructor) rfl rfl rfl rfl ?_
   repeat refine aa rfl ?_
   refine ab rfl ?_ ?_<;>intro h
   ·cases o2 with
    |none=>cases h
    |some a =>
     clear h
     have hr:((E'.take (i+1)).flatMap (ku F M)).map eP=L2.map eP++[eP a]:=by rw[hsn];simp
     repeat refine aa rfl ?_
     refine ar (be 1 rfl rfl rfl rfl rfl rfl rfl rfl rfl rfl rfl (by repeat' constructor) rfl ?_)
     repeat refine aa rfl ?_
     refine ar (bE 1 rfl rfl rfl rfl rfl rfl rfl rfl rfl rfl rfl (by repeat' constructor) (by intro row hr;first|(simp at hr;subst hr;rfl)|simp at hr) rfl rfl (by simp;omega) (by simp;omega) ?_)
     repeat refine aa rfl ?_
     refine⟨(i+1,g'+1),hlt,by simp only;omega,rfl,?_,rfl,rfl,congrArg I hw,rfl,rfl,rfl,rfl,rfl,rfl,?_,trivial⟩
     ·dsimp only
      rw[hr];rfl
     ·dsimp only
      rw[hr];rfl
   ·cases o2 with
    |some a=>cases h
    |none =>
     clear h
     have hr:((E'.take (i+1)).flatMap (ku F M)).map eP=L2.map eP:=by rw[hsn];simp
     repeat refine aa rfl ?_
     refine⟨(i+1,g'),hlt,by simp only;omega,rfl,?_,rfl,rfl,congrArg I hw,rfl,rfl,rfl,rfl,rfl,rfl,?_,trivial⟩
     ·dsimp only
      rw[hr];rfl
     ·dsimp only
      rw[hr];rfl
  ·have hge:i=E'.length:=by have:=of_decide_eq_false h;simp only[hmE]at this;omega
   clear h
   subst hge
   rw[List.take_length]
   (repeat ((fail_if_success (with_reducible refine jA ?_));refine dh rfl ?_))
   refine ay (Ghost.takeD (k:=1007) (t:=6) rfl rfl rfl) ?_
   repeat refine aa rfl ?_
   exact mN (K:=fun o r=>K (({ reg:=s.reg,own:=o }:St).putR d r)) [(1,g1,R1),(1002,g02,R02),(1003,gE,⟨164,12,aX E,1⟩),(19,gP,⟨3,1,ps.map rowP,0⟩)] (.inl rfl) rfl rfl ⟨rfl,rfl,rfl,rfl,trivial⟩ hK
theorem ux {α:Type} (p:α→Bool) (f:Nat→List α) {n k:Nat} {a:α} (hk:k<n) (h1:∀k',k'<k→∀x∈f k',p x=false) (h:(f k).find? p=some a):((List.range n).flatMap f).find? p=some a:=by
 have n1:((List.range k).flatMap f).find? p=none:=pI p f h1
 rw[rU hk,List.flatMap_append,List.flatMap_cons,List.find?_append,List.find?_append,n1,h]
 rfl
theorem yb {b:BR} (hb:b.Ok) {a:Rat × Rat} (h:HQ a.1 12000∧HQ a.2 12000):Ret Tryz.prog .shared 110 [.agg (eB b),.agg (eP a)] (.bool (eY b a)):=zT b hb ⟨ofQ a.1,ofQ a.2⟩ (ha:=⟨Vq.ofQ (h:=h.1),Vq.ofQ (h:=h.2)⟩) (by decide)
theorem yj (F M:Ln) (E:List Ln):(fB F M E).length≤(E.length+1)*2:=by
 rw[fB]
 split
 ·simp;omega
 ·have:=sx F M (E++[Bd.flat])
  rw[List.length_append]at this
  exact this
theorem tn (ns:List Nat):(c6 ns 0).map rowP=List.replicate ns.length [I (0:Nat)]:=by
 rw[oI,List.map_replicate];rfl
def iF (ns:List Nat) (k:Nat):List Nat:=c6 ns (if k<bS ns then k else 0)
theorem xy {ns:List Nat} {k:Nat} (h:k<bS ns):gZ ns (c6 ns k)=(decide (k+1<bS ns),iF ns (k+1)):=by
 rw[oC ns k h,iF]
 by_cases h2:k+1<bS ns
 ·rw[if_pos h2,if_pos h2,decide_eq_true h2]
 ·rw[if_neg h2,if_neg h2,decide_eq_false h2]
set_option maxRecDepth 20000 in
theorem tN (b:BR) (hb:b.Ok) {a:Rat × Rat} (ha:gw b=some a):Ret Tryz.prog .shared 50 [.agg (eB b)] (.tup [.agg (eP a),.bool true]):=by
 have w0:=fW
 have w1:=ub
 have h12:=hb.few.1
 have hlim:=hb.lim.l
 have hfew:=hb.few
 have hml:(b.l.map eS).length=b.l.length:=by simp
 have hcl:=mA hfew.2
 have hE:∀e∈bh b.l,LnH e:=fun e he=>mz hlim he
 have hP0:=oM (eo b)
 have hfind:∀k i c,k<bS (eo b)→(∀k',k'<k→∀x∈dK b k',eY b x=false)→(dK b k)[i]? = some c→(∀j,j<i→∀x,(dK b k)[j]? = some x→eY b x=false)→eY b c=true→c=a:=fun k i c hk g1 g2 g3 g4=>by
  have:=Bp (eY b) (dK b) hk g1 g2 g3 g4
  rw[gw,this]at ha
  exact Option.some.inj ha
 have hnone:(∀k',k'<bS (eo b)→∀x∈dK b k',eY b x=false)→((List.range (ca b).length).flatMap (lB (ca b))).find? (eY b)=some a:=fun g=>by
  rw[gw,pI (eY b) (dK b) g]at ha
  exact ha
 have hcq:=fun k (c:Rat × Rat) (h:c∈dK b k)=>yb hb (qM hb h)
 have hlen:=fun k=>(rO (eo b) k).trans (mY b)
 have hdok:=fun k=>p4 b k
 have hstep:=fun k (h:k<bS (eo b))=>xy h
 have hnl:=mY b
 refine Ret.of_pwp layOk mixed Go.Proofs.Tryz.func50 rfl (by decide) rfl rfl ?_
 (repeat ((fail_if_success (with_reducible refine aT 1 ?_));refine dh rfl ?_))
 refine ay (Ghost.move (k:=2) (k':=1002) (t:=2) rfl rfl rfl rfl) ?_
 ((repeat ((fail_if_success (with_reducible refine aT 1 ?_));refine dh rfl ?_));refine aG 2 ?_)
 iterate 2 refine aa rfl ?_
 refine aJ ?_
 refine a_ rfl (sQ (g1:=1) (g02:=1) b.l hlim hfew rfl ⟨rfl,rfl,trivial⟩ fun s1 g=>?_)
 refine aM ?_
 repeat refine aa rfl ?_
 rw[hml]
 refine ar (fS rfl rfl rfl rfl rfl rfl rfl rfl (by omega) (by show(8:Int)*_≤_;omega) (by omega) ?_)
 rw[List.length_replicate,Int.toNat_natCast,←hnl,show List.replicate (eo b).length [PV.int .i64 0]=(iF (eo b) 0).map rowP by rw[iF,ite_self,tn];rfl,hnl]
 repeat refine aa rfl ?_
 refine cg [(1,.ptr 1 1 0 0),(2,.ptr 1002 1 0 0),(4,.als 1003 g 0 (aX (bh b.l)).length),(5,.als 19 ((s1.own 19).1+1) 0 b.l.length),(6,.bool (decide (0<bS (eo b))))] [(1,1,⟨29,6,[eB b],2⟩),(1002,1,⟨33,8,[zN++zN],2⟩),(1003,g,⟨164,12,aX (bh b.l),1⟩),(19,((s1.own 19).1+1),⟨3,1,(iF (eo b) 0).map rowP,0⟩)] ⟨rfl,rfl,rfl,rfl,by rw[decide_eq_true hP0];rfl,rfl,rfl,rfl,rfl,trivial⟩ ?_
 generalize (s1.own 19).1+1=g19
 intro s2
 refine am (fun k:Nat=>k≤bS (eo b)∧∀k',k'<k→∀x∈dK b k',eY b x=false) (fun k=>[(1,.ptr 1 1 0 0),(2,.ptr 1002 1 0 0),(4,.als 1003 g 0 (aX (bh b.l)).length),(5,.als 19 g19 0 b.l.length),(6,.bool (decide (k<bS (eo b))))]) (fun k=>[(1,1,⟨29,6,[eB b],2⟩),(1002,1,⟨33,8,[zN++zN],2⟩),(1003,g,⟨164,12,aX (bh b.l),1⟩),(19,g19,⟨3,1,(iF (eo b) k).map rowP,0⟩)]) (fun k=>bS (eo b)-k) 0 ⟨Nat.zero_le _,fun j hj=>absurd hj (by omega)⟩ ⟨rfl,rfl,rfl,rfl,rfl,rfl,rfl,rfl,rfl,trivial⟩ ?_
 rintro k s3 ⟨hk,hall⟩
 repeat refine aa rfl ?_
 refine ab rfl ?_ ?_<;>intro h
 ·have hlt:k<bS (eo b):=of_decide_eq_true h
  clear h
  have est:iF (eo b) k=c6 (eo b) k:=by rw[iF,if_pos hlt]
  rw[est]
  have hlenk:=hlen k
  have hC:∀c∈dK b k,_:=hcq k
  have hfk:=fun i c=>hfind k i c hlt hall
  ((repeat ((fail_if_success (with_reducible refine aT 6 ?_));refine dh rfl ?_));refine aG 3 ?_)
  iterate 3 refine aa rfl ?_
  refine aJ ?_
  refine a_ rfl (nT (g1:=1) (g02:=1) (gE:=g) (gP:=g19) b hb (c6 (eo b) k) hlenk (hdok k) (bh b.l) hE (by omega) rfl (by rw[hlenk];rfl) rfl ⟨rfl,rfl,rfl,rfl,trivial⟩ fun s4=>?_)
  refine aM ?_
  rw[show fB (cY b (iA (c6 (eo b) k))) (cf b (iA (c6 (eo b) k))) (bh b.l)=dK b k from rfl]
  have hnx:=hstep k hlt
  have hx0:k+1≤bS (eo b):=hlt
  have hCl:(dK b k).length≤200:=by
   have:=yj (cY b (iA (c6 (eo b) k))) (cf b (iA (c6 (eo b) k))) (bh b.l)
   have e:(dK b k).length≤_:=this
   omega
  generalize hCk:dK b k=C at *
  have hmC:(C.map eP).length=C.length:=List.length_map _
  repeat refine aa rfl ?_
  refine cg [(1,.ptr 1 1 0 0),(2,.ptr 1002 1 0 0),(4,.als 1003 g 0 (aX (bh b.l)).length),(5,.als 19 g19 0 b.l.length),(7,.sl (C.map eP)),(8,I ((0:Nat):Int))] [(1,1,⟨29,6,[eB b],2⟩),(1002,1,⟨33,8,[zN++zN],2⟩),(1003,g,⟨164,12,aX (bh b.l),1⟩),(19,g19,⟨3,1,(c6 (eo b) k).map rowP,0⟩)] ⟨rfl,rfl,rfl,rfl,rfl,rfl,rfl,rfl,rfl,rfl,trivial⟩ ?_
  intro s5
  refine am (fun i:Nat=>i≤C.length∧∀j,j<i→∀x,C[j]? = some x→eY b x=false) (fun i=>[(1,.ptr 1 1 0 0),(2,.ptr 1002 1 0 0),(4,.als 1003 g 0 (aX (bh b.l)).length),(5,.als 19 g19 0 b.l.length),(7,.sl (C.map eP)),(8,I (i:Nat))]) (fun _=>[(1,1,⟨29,6,[eB b],2⟩),(1002,1,⟨33,8,[zN++zN],2⟩),(1003,g,⟨164,12,aX (bh b.l),1⟩),(19,g19,⟨3,1,(c6 (eo b) k).map rowP,0⟩)]) (fun i=>C.length-i) 0 ⟨Nat.zero_le _,fun j hj=>absurd hj (by omega)⟩ ⟨rfl,rfl,rfl,rfl,rfl,rfl,rfl,rfl,rfl,rfl,trivial⟩ ?_
  rintro i s6 ⟨hi,hin⟩
  repeat refine aa rfl ?_
  refine ab rfl ?_ ?_<;>intro h
  ·have hlt2:i<C.length:=by have:=of_decide_eq_true h;simp only[hmC]at this;omega
   clear h
   obtain⟨c,hc⟩:=aL hlt2
   have hb1:=hC c (List.mem_of_getElem? hc)
   have hfi:=hfk i c hc hin
   have hw:=gz i
   generalize hbc:eY b c=bc at *
   repeat refine aa rfl ?_
   refine ah 6 [34,35,36,37,38,39] (by decide +kernel) ?_
   repeat refine aa rfl ?_
   refine aZ rfl rfl rfl rfl rfl rfl rfl hc rfl ?_
   repeat refine aa rfl ?_
   refine aP rfl rfl rfl hb1 rfl rfl rfl ?_
   repeat refine aa rfl ?_
   refine ab rfl ?_ ?_<;>intro h
   ·have:=hfi h
    subst this
    repeat refine aa rfl ?_
    refine aZ rfl rfl rfl rfl rfl rfl rfl hc rfl ?_
    repeat refine aa rfl ?_
    exact aF rfl rfl rfl
   ·subst h
    repeat refine aa rfl ?_
    refine⟨i+1,⟨hlt2,fun j hj x hx=>?_⟩,by omega,rfl,rfl,rfl,rfl,rfl,congrArg I hw,rfl,rfl,rfl,rfl,trivial⟩
    rcases Nat.lt_or_ge j i with h2|h2
    ·exact hin j h2 x hx
    ·rw[show j=i by omega,hc]at hx
     cases hx
     exact hbc
  ·have hge:i=C.length:=by have:=of_decide_eq_false h;simp only[hmC]at this;omega
   clear h
   subst hge
   ((repeat ((fail_if_success (with_reducible refine aT 5 ?_));refine dh rfl ?_));refine aG 2 ?_)
   iterate 2 refine aa rfl ?_
   refine aJ ?_
   refine a_ rfl (Bz (g1:=1) (g02:=1) (gE:=g) (gP:=g19) b hb (c6 (eo b) k) hlenk (hdok k) rfl (by rw[hlenk];rfl) ⟨rfl,rfl,rfl,rfl,trivial⟩ fun s7=>?_)
   refine aM ?_
   rw[hnx]
   repeat refine aa rfl ?_
   refine⟨k+1,⟨hlt,fun k' hk' x hx=>?_⟩,by omega,rfl,rfl,rfl,rfl,rfl,rfl,rfl,rfl,rfl,trivial⟩
   rcases Nat.lt_or_ge k' k with h2|h2
   ·exact hall k' h2 x hx
   ·rw[show k'=k by omega,hCk]at hx
    obtain⟨j,hj⟩:=List.mem_iff_getElem?.1 hx
    exact hin j (List.getElem?_eq_some_iff.1 hj).1 x hj
 ·have hge:k=bS (eo b):=by have:=of_decide_eq_false h;omega
  clear h
  subst hge
  have hn2:=hnone hall
  repeat refine aa rfl ?_
  refine ak rfl rfl rfl w0 rfl rfl ?_
  repeat refine aa rfl ?_
  refine ak rfl rfl rfl w1 rfl rfl ?_
  repeat refine aa rfl ?_
  refine ak rfl rfl rfl w0 rfl rfl ?_
  repeat refine aa rfl ?_
  refine ar (be 1 rfl rfl rfl rfl rfl rfl rfl rfl rfl rfl rfl (by repeat' constructor) rfl ?_)
  repeat refine aa rfl ?_
  refine ar (bE 1 rfl rfl rfl rfl rfl rfl rfl rfl rfl rfl rfl (by repeat' constructor) (by intro row hr;first|(simp at hr;subst hr;rfl)|simp at hr) rfl rfl (by simp;omega) (by simp;omega) ?_)
  (repeat ((fail_if_success (with_reducible refine aT 13 ?_));refine dh rfl ?_))
  refine ay (Ghost.takeD (k:=1003) (t:=4) rfl rfl rfl) ?_
  repeat refine aa rfl ?_
  have hed:aX (ca b)=aX (bh b.l)++[nX Bd.flat]:=by simp[ca,aX]
  have hEh:∀e∈ca b,LnH e:=fun e he=>sX hb he
  have hpq:=fun i (c:Rat × Rat) (h:c∈lB (ca b) i)=>yb hb (uK hb h)
  have hEl:(ca b).length≤100:=by
   rw[ca,List.length_append]
   simp;omega
  refine cg [(1,.ptr 1 1 0 0),(2,.ptr 1002 1 0 0),(4,.sl (aX (ca b))),(9,I ((0:Nat):Int))] [(1,1,⟨29,6,[eB b],2⟩),(1002,1,⟨33,8,[zN++zN],2⟩)] ⟨rfl,rfl,by rw[hed];rfl,rfl,rfl,rfl,trivial⟩ ?_
  intro s4
  generalize ca b=E2 at *
  have hmE:(aX E2).length=E2.length:=List.length_map _
  clear hfind hnone hcq hstep hdok hlen hall hE ha
  refine am (fun i:Nat=>i≤E2.length∧∀i',i'<i→∀x∈lB E2 i',eY b x=false) (fun i=>[(1,.ptr 1 1 0 0),(2,.ptr 1002 1 0 0),(4,.sl (aX E2)),(9,I (i:Nat))]) (fun _=>[(1,1,⟨29,6,[eB b],2⟩),(1002,1,⟨33,8,[zN++zN],2⟩)]) (fun i=>E2.length-i) 0 ⟨Nat.zero_le _,fun j hj=>absurd hj (by omega)⟩ ⟨rfl,rfl,rfl,rfl,rfl,rfl,trivial⟩ ?_
  rintro i s5 ⟨hi,hall⟩
  repeat refine aa rfl ?_
  refine ab rfl ?_ ?_<;>intro h
  ·have hlt:i<E2.length:=by have:=of_decide_eq_true h;simp only[hmE]at this;omega
   clear h
   have hei:=aC (d:=Bd.flat) hlt
   have hw:=gz i
   repeat refine aa rfl ?_
   refine cg [(1,.ptr 1 1 0 0),(2,.ptr 1002 1 0 0),(4,.sl (aX E2)),(9,I (i:Nat)),(10,I ((0:Nat):Int))] [(1,1,⟨29,6,[eB b],2⟩),(1002,1,⟨33,8,[zN++zN],2⟩)] ⟨rfl,rfl,rfl,rfl,rfl,rfl,rfl,trivial⟩ ?_
   intro s6
   refine am (fun k:Nat=>k≤i∧∀j,j<k→∀x∈(Bd.cross (E2.getD i Bd.flat) (E2.getD j Bd.flat)).toList,eY b x=false) (fun k=>[(1,.ptr 1 1 0 0),(2,.ptr 1002 1 0 0),(4,.sl (aX E2)),(9,I (i:Nat)),(10,I (k:Nat))]) (fun _=>[(1,1,⟨29,6,[eB b],2⟩),(1002,1,⟨33,8,[zN++zN],2⟩)]) (fun k=>i-k) 0 ⟨Nat.zero_le _,fun j hj=>absurd hj (by omega)⟩ ⟨rfl,rfl,rfl,rfl,rfl,rfl,rfl,trivial⟩ ?_
   rintro k s7 ⟨hk,hin⟩
   repeat refine aa rfl ?_
   refine ab rfl ?_ ?_<;>intro h
   ·have hlk:k<i:=by have:=of_decide_eq_true h;omega
    clear h
    have hek:=aC (d:=Bd.flat) (show k<E2.length by omega)
    have mt:=lY (iP hEh i) (iP hEh k)
    have hwk:IntKind.i64.wrap (((k:Nat):Int)+1)=((k+1:Nat):Int):=by rw[wrap_i64 (by omega) (by omega)];omega
    cases ho:Bd.cross (E2.getD i Bd.flat) (E2.getD k Bd.flat) with
    |none =>
     rw[ho]at mt
     repeat refine aa rfl ?_
     refine fq [(12,11),(13,11)] (by decide +kernel) (by decide +kernel) ?_
     repeat refine aa rfl ?_
     refine aZ rfl rfl rfl rfl rfl rfl rfl hei rfl ?_
     repeat refine aa rfl ?_
     refine aZ rfl rfl rfl rfl rfl rfl rfl hek rfl ?_
     repeat refine aa rfl ?_
     refine ak rfl rfl rfl mt rfl rfl ?_
     repeat refine aa rfl ?_
     refine CL rfl rfl rfl rfl rfl ?_
     refine CM 2 rfl rfl rfl rfl rfl rfl (fun _=>rfl) (by repeat' constructor) rfl rfl rfl rfl ?_
     repeat refine aa rfl ?_
     refine⟨k+1,⟨hlk,fun j hj x hx=>?_⟩,by omega,rfl,rfl,rfl,rfl,congrArg I hwk,rfl,rfl,trivial⟩
     rcases Nat.lt_or_ge j k with h2|h2
     ·exact hin j h2 x hx
     ·rw[show j=k by omega,ho]at hx
      cases hx
    |some c =>
     rw[ho]at mt
     have hb1:=hpq i c (List.mem_flatMap.2 ⟨k,List.mem_range.2 hlk,by rw[ho];simp⟩)
     have hfound:eY b c=true→c=a:=fun hc=>by
      have h1:(lB E2 i).find? (eY b)=some c:=ux (eY b) _ hlk hin (by rw[ho];simp[hc])
      have h2:=ux (eY b) (lB E2) hlt hall h1
      rw[hn2]at h2
      exact(Option.some.inj h2).symm
     generalize hbc:eY b c=bc at *
     repeat refine aa rfl ?_
     refine fq [(12,11),(13,11)] (by decide +kernel) (by decide +kernel) ?_
     repeat refine aa rfl ?_
     refine aZ rfl rfl rfl rfl rfl rfl rfl hei rfl ?_
     repeat refine aa rfl ?_
     refine aZ rfl rfl rfl rfl rfl rfl rfl hek rfl ?_
     repeat refine aa rfl ?_
     refine ak rfl rfl rfl mt rfl rfl ?_
     repeat refine aa rfl ?_
     refine CL rfl rfl rfl rfl rfl ?_
     refine CM 2 rfl rfl rfl rfl rfl rfl (fun _=>rfl) (by repeat' constructor) rfl rfl rfl rfl ?_
     repeat refine aa rfl ?_
     refine aP rfl rfl rfl hb1 rfl rfl rfl ?_
     repeat refine aa rfl ?_
     refine ab rfl ?_ ?_<;>intro h
     ·have:=hfound h
      subst this
      repeat refine aa rfl ?_
      exact aF rfl rfl rfl
     ·subst h
      repeat refine aa rfl ?_
      refine⟨k+1,⟨hlk,fun j hj x hx=>?_⟩,by omega,rfl,rfl,rfl,rfl,congrArg I hwk,rfl,rfl,trivial⟩
      rcases Nat.lt_or_ge j k with h2|h2
      ·exact hin j h2 x hx
      ·rw[show j=k by omega,ho]at hx
       rw[List.mem_singleton.1 hx]
       exact hbc
   ·have hge:k=i:=by have:=of_decide_eq_false h;omega
    clear h
    subst hge
    repeat refine aa rfl ?_
    refine⟨k+1,⟨hlt,fun i' hi' x hx=>?_⟩,by omega,rfl,rfl,rfl,congrArg I hw,rfl,rfl,trivial⟩
    rcases Nat.lt_or_ge i' k with h2|h2
    ·exact hall i' h2 x hx
    ·rw[show i'=k by omega]at hx
     obtain⟨j,hj,hx⟩:=List.mem_flatMap.1 hx
     exact hin j (List.mem_range.1 hj) x hx
  ·exfalso
   have hge:i=E2.length:=by have:=of_decide_eq_false h;simp only[hmE]at this;omega
   subst hge
   rw[pI (eY b) (lB E2) hall]at hn2
   cases hn2
set_option maxRecDepth 20000 in
theorem wO (c:CR) (hc:c.Lim) (h0:br c=0) (y:RR) {p:Rat} {n:Nat} [hy:Vq y p n] (hn:n≤1000000):Ret Tryz.prog .shared 114 [.agg (eC c),.agg (eR y)] (.agg (eR (ofQ (aI c.m (kB c.s p c.S.length))))):=by
 obtain⟨h40,hSM,-,hasc⟩:=bP h0
 have w0:=fW
 have hSm:(c.S.map eN).length=c.S.length:=by simp
 generalize hN:c.S.length=N at *
 refine Ret.of_pwp layOk mixed Go.Proofs.Tryz.func114 rfl (by decide) rfl rfl ?_
 repeat refine aa rfl ?_
 refine ak rfl rfl rfl w0 rfl rfl ?_
 repeat refine aa rfl ?_
 refine am (fun i:Nat=>i≤N) (fun i=>[(2,.ptr 2 1 0 0),(3,.ptr 3 1 0 0),(4,.ptr 4 1 0 0),(5,.ptr 5 1 0 0),(6,I (i:Nat))])
  (fun i=>[(2,1,⟨69,2,[eC c],2⟩),(3,1,⟨26,4,[eR y],2⟩),(4,1,⟨26,4,[zN],2⟩),(5,1,⟨26,4,[eR (ofQ (aI c.m (kB c.s p i)))],2⟩)]) (fun i=>N-i) 0 (Nat.zero_le _) ⟨rfl,rfl,rfl,rfl,rfl,rfl,rfl,rfl,rfl,trivial⟩ ?_
 intro i s hi
 repeat refine aa rfl ?_
 refine ab rfl ?_ ?_<;>intro h
 ·have hlt:i<N:=by have:=of_decide_eq_true h;rw[hSm]at this;omega
  clear h
  have hx:=aC (l:=c.S) (i:=i) (d:=0) (by omega)
  have hmx:=aC (l:=c.M) (i:=i) (d:=RR.zero) (by omega)
  have hxi:=hc.s _ (List.mem_of_getElem? hx)
  have hmv:=(hc.m _ (List.mem_of_getElem? hmx)).v
  have hw:=bk _ hxi
  have zbi:Zb (c.S.getD i 0):=aE hxi.1 hxi.2
  have hc1:=cS y (ofQ ((c.S.getD i 0:Int):Rat)) (by omega) (by decide)
  have hg:=fw (p-((c.S.getD i 0:Int):Rat))
  have e4:=c7 (c.M.getD i RR.zero) (ofQ 0) (hx:=hmv) (by decide) (by decide)
  rw[Rat.add_zero]at e4
  have hnx:IntKind.i64.wrap (((i:Nat):Int)+1)=((i+1:Nat):Int):=by rw[wrap_i64 (by omega) (by omega)];omega
  have hpr:ofQ (aI c.m (kB c.s p (i+1)))=if 0<sgn (p-((c.S.getD i 0:Int):Rat)) then ofQ (c.M.getD i RR.zero).val else ofQ (aI c.m (kB c.s p i)):=by
   rw[kB]
   by_cases hle:c.s i<p
   ·rw[if_pos hle,if_pos (hg.2 (by have:((c.S.getD i 0:Int):Rat)<p:=hle;grind)),aI];rfl
   ·rw[if_neg hle,if_neg (fun h=>hle (by have:=hg.1 h;show((c.S.getD i 0:Int):Rat)<p;grind))]
  generalize hSN:ofQ (aI c.m (kB c.s p (i+1)))=S1 at *
  generalize ofQ (aI c.m (kB c.s p i))=S0 at *
  generalize ofQ (c.M.getD i RR.zero).val=M1 at *
  generalize sgn (p-((c.S.getD i 0:Int):Rat))=sg at *
  generalize ofQ ((c.S.getD i 0:Int):Rat)=W0 at *
  generalize c.S.getD i 0=x0 at *
  generalize c.M.getD i RR.zero=m0 at *
  repeat refine aa rfl ?_
  refine ah 9 [15,16,17,18,19,20,21,22,23] (by decide +kernel) ?_
  repeat refine aa rfl ?_
  refine aZ rfl rfl rfl rfl rfl rfl rfl hx rfl ?_
  repeat refine aa rfl ?_
  refine ak rfl rfl rfl hw rfl rfl ?_
  repeat refine aa rfl ?_
  refine aP rfl rfl rfl hc1 rfl rfl rfl ?_
  repeat refine aa rfl ?_
  refine ab rfl ?_ ?_<;>intro h
  ·have h1:=of_decide_eq_true h
   clear h
   rw[if_pos h1]at hpr
   repeat refine aa rfl ?_
   refine ah 7 [24,25,26,27,28,29,30] (by decide +kernel) ?_
   repeat refine aa rfl ?_
   refine aZ rfl rfl rfl rfl rfl rfl rfl hmx rfl ?_
   repeat refine aa rfl ?_
   refine ak rfl rfl rfl w0 rfl rfl ?_
   repeat refine aa rfl ?_
   refine ak rfl rfl rfl e4 rfl rfl ?_
   repeat refine aa rfl ?_
   refine⟨i+1,hlt,by omega,rfl,rfl,rfl,rfl,congrArg I hnx,rfl,rfl,rfl,?_,trivial⟩
   show(_:Nat × Option Cont)=(1,some (Cont.mk 26 4 [eR (ofQ (aI c.m (kB c.s p (i+1))))] 2))
   rw[hSN,hpr]
   rfl
  ·have h1:=of_decide_eq_false h
   clear h
   rw[if_neg h1]at hpr
   repeat refine aa rfl ?_
   refine⟨i+1,hlt,by omega,rfl,rfl,rfl,rfl,congrArg I hnx,rfl,rfl,rfl,?_,trivial⟩
   show(_:Nat × Option Cont)=(1,some (Cont.mk 26 4 [eR (ofQ (aI c.m (kB c.s p (i+1))))] 2))
   rw[hSN,hpr]
   rfl
 ·have hie:i=N:=by have:=of_decide_eq_false h;rw[hSm]at this;omega
  clear h
  subst hie
  repeat refine aa rfl ?_
  exact aF rfl rfl rfl
def dW (l:List SR):List AR:=[bz,oW]++l.flatMap fun s=>[iJ s.x,nS s.x]
def ka (b:BR) (z t:Rat):Bool:=(dW b.l).any fun d=>dM b.l z t d.z.val d.t.val
theorem wP (b:BR) (z t:Rat):ka b z t=cw b z t:=by
 have key:∀d,d∈dW b.l↔d∈dX b.l:=fun d=>by
  rw[dW,dX,bI]
  simp only[List.mem_append,List.mem_flatMap,List.mem_map,List.mem_cons,List.not_mem_nil,or_false]
  constructor
  ·rintro(h|⟨s,hs,h|h⟩)
   ·exact .inr h
   ·exact .inl (.inl ⟨s.x,cy hs,h.symm⟩)
   ·exact .inl (.inr ⟨s.x,cy hs,h.symm⟩)
  ·rintro((⟨x,hx,h⟩|⟨x,hx,h⟩)|h)
   ·obtain⟨s,hs,rfl⟩:=d7 hx
    exact .inr ⟨s,hs,.inl h.symm⟩
   ·obtain⟨s,hs,rfl⟩:=d7 hx
    exact .inr ⟨s,hs,.inr h.symm⟩
   ·exact .inl h
 rw[ka,cw,Bool.eq_iff_iff,List.any_eq_true,List.any_eq_true]
 exact⟨fun⟨d,h1,h2⟩=>⟨d,(key d).1 h1,h2⟩,fun⟨d,h1,h2⟩=>⟨d,(key d).2 h1,h2⟩⟩
theorem yy {l:List SR} (hck:bD l=0) {r:AR} (h:r∈dW l):Va r r.z.val r.t.val 4 4:=by
 rw[dW,List.mem_append]at h
 rcases h with h|h
 ·exact pD (l:=l) hck (List.mem_append_right _ h)
 ·obtain⟨s,hs,h⟩:=List.mem_flatMap.1 h
  refine pD (l:=l) hck (List.mem_append_left _ ?_)
  rw[bI,List.mem_append,List.mem_map,List.mem_map]
  simp only[List.mem_cons,List.not_mem_nil,or_false]at h
  rcases h with h|h
  ·exact .inl ⟨s.x,cy hs,h.symm⟩
  ·exact .inr ⟨s.x,cy hs,h.symm⟩
theorem uh {s:SR} (h0:br s.k=0) {p:Nat} (hp:p≤s.k.S.length):0≤aI s.k.m p:=by
 cases p with
 |zero=>exact Rat.le_refl
 |succ q=>exact((bP h0).2.2.1 q (by omega)).2.2
theorem og (l:List SR):(dW l).length=2+l.length*2:=by
 rw[dW,List.length_append]
 congr 1
 induction l with
 |nil=>rfl
 |cons s l ih=>rw[List.flatMap_cons,List.length_append,ih,List.length_cons];simp;omega
theorem sT {l:List SR} {i:Nat} {s:SR} (h:l[i]? = some s):dW (l.take (i+1))=dW (l.take i)++[iJ s.x,nS s.x]:=by
 rw[bY h,dW,dW,List.flatMap_append,List.append_assoc]
 simp
set_option maxRecDepth 20000 in
theorem tD (b:BR) (hb:b.Ok) (a:AR) {z t:Rat} {n m:Nat} [ha:Va a z t n m] (hn:n+m≤50000):Ret Tryz.prog .shared 51 [.agg (eB b),.agg (eA a)] (.bool (ka b z t)):=by
 have b1:=bk 1 ⟨by decide,by decide⟩
 have b0:=bk 0 ⟨by decide,by decide⟩
 have bm:=bk (-1) ⟨by decide,by decide⟩
 have hck:=hb.chkL
 have hl:=hb.lim.l
 have h12:=hb.few.1
 have h8:=hb.few.2
 have hml:(b.l.map eS).length=b.l.length:=by simp
 have hdv:=fun r (h:r∈dW b.l)=>yy hck h
 have hdl:=og b.l
 have hdl2:=fun i=>og (b.l.take i)
 generalize hR:ka b z t=R
 rw[ka]at hR
 refine Ret.of_pwp layOk mixed Go.Proofs.Tryz.func51 rfl (by decide) rfl rfl ?_
 repeat refine aa rfl ?_
 refine ak rfl rfl rfl b1 rfl rfl ?_
 repeat refine aa rfl ?_
 refine ak rfl rfl rfl b0 rfl rfl ?_
 repeat refine aa rfl ?_
 refine ak rfl rfl rfl bm rfl rfl ?_
 repeat refine aa rfl ?_
 refine ak rfl rfl rfl b0 rfl rfl ?_
 repeat refine aa rfl ?_
 refine ar (be 1 rfl rfl rfl rfl rfl rfl rfl rfl rfl rfl rfl (by repeat' constructor) rfl ?_)
 repeat refine aa rfl ?_
 refine am (fun q:Nat × Nat=>q.1≤b.l.length) (fun q=>[(2,.ptr 2 1 0 0),(3,.ptr 3 1 0 0),(5,.als 20 q.2 0 ((dW (b.l.take q.1)).map eA).length),(6,I (q.1:Nat))]) (fun q=>[(2,1,⟨29,6,[eB b],2⟩),(3,1,⟨33,8,[eA a],2⟩),(20,q.2,⟨38,8,(dW (b.l.take q.1)).map eA,1⟩)]) (fun q=>b.l.length-q.1) (0,1) (Nat.zero_le _) ⟨rfl,rfl,rfl,rfl,rfl,rfl,rfl,trivial⟩ ?_
 rintro⟨i,g⟩ s1 hi
 dsimp only at hi ⊢
 repeat refine aa rfl ?_
 refine ab rfl ?_ ?_<;>intro h
 ·have hlt:i<b.l.length:=by have:=of_decide_eq_true h;simp only[hml]at this;omega
  clear h
  have hx:=aC (d:=dS) hlt
  have hr:=dx hck (cy (aB hlt))
  have hsn:=sT hx
  have hdi:=hdl2 i
  rw[List.length_take]at hdi
  have hw:=gz i
  generalize b.l.getD i dS=S at *
  have hng:IntKind.i64.wrap (0-S.x) = -S.x:=by rw[wrap_i64 (by omega) (by omega)];omega
  have bx:=bk S.x ⟨by omega,by omega⟩
  have bn:=bk (-S.x) ⟨by omega,by omega⟩
  have hrow:(dW (b.l.take (i+1))).map eA=(dW (b.l.take i)).map eA++[eA (iJ S.x),eA (nS S.x)]:=by rw[hsn,List.map_append];rfl
  generalize dW (b.l.take i)=D at *
  repeat refine aa rfl ?_
  refine aZ rfl rfl rfl rfl rfl rfl rfl hx rfl ?_
  repeat refine aa rfl ?_
  rw[hng]
  refine ak rfl rfl rfl bn rfl rfl ?_
  repeat refine aa rfl ?_
  refine ak rfl rfl rfl b1 rfl rfl ?_
  repeat refine aa rfl ?_
  refine ak rfl rfl rfl bx rfl rfl ?_
  repeat refine aa rfl ?_
  refine ak rfl rfl rfl bm rfl rfl ?_
  repeat refine aa rfl ?_
  refine ar (be 1 rfl rfl rfl rfl rfl rfl rfl rfl rfl rfl rfl (by repeat' constructor) rfl ?_)
  repeat refine aa rfl ?_
  refine ar (bE 1 rfl rfl rfl rfl rfl rfl rfl rfl rfl rfl rfl (by repeat' constructor) (by intro row hr;simp at hr;rcases hr with rfl|rfl<;>rfl) rfl rfl (by simp;omega) (by simp;omega) ?_)
  repeat refine aa rfl ?_
  refine⟨(i+1,g+1),hlt,by simp only;omega,rfl,rfl,?_,congrArg I hw,rfl,rfl,?_,trivial⟩
  ·dsimp only
   rw[hrow];rfl
  ·dsimp only
   rw[hrow];rfl
 ·have hge:i=b.l.length:=by have:=of_decide_eq_false h;simp only[hml]at this;omega
  clear h
  subst hge
  rw[List.take_length]
  (repeat ((fail_if_success (with_reducible refine aT 7 ?_));refine dh rfl ?_))
  refine ay (Ghost.takeD (k:=20) (t:=5) rfl rfl rfl) ?_
  repeat refine aa rfl ?_
  generalize dW b.l=D at *
  have hmD:(D.map eA).length=D.length:=List.length_map _
  refine am (fun i:Nat=>i≤D.length∧(D.drop i).any (fun d=>dM b.l z t d.z.val d.t.val)=R) (fun i=>[(2,.ptr 2 1 0 0),(3,.ptr 3 1 0 0),(5,.sl (D.map eA)),(8,I (i:Nat))]) (fun _=>[(2,1,⟨29,6,[eB b],2⟩),(3,1,⟨33,8,[eA a],2⟩)]) (fun i=>D.length-i) 0 ⟨Nat.zero_le _,hR⟩ ⟨rfl,rfl,rfl,rfl,rfl,rfl,trivial⟩ ?_
  rintro i s2 ⟨hi,hany⟩
  repeat refine aa rfl ?_
  refine ab rfl ?_ ?_<;>intro h
  ·have hlt:i<D.length:=by have:=of_decide_eq_true h;simp only[hmD]at this;omega
   clear h
   obtain⟨r,hrd⟩:=aL hlt
   have hrv:=hdv r (List.mem_of_getElem? hrd)
   have hdrop:(D.drop i).any (fun d=>dM b.l z t d.z.val d.t.val)=(dM b.l z t r.z.val r.t.val||(D.drop (i+1)).any (fun d=>dM b.l z t d.z.val d.t.val)):=by
    obtain⟨hl1,h2⟩:=List.getElem?_eq_some_iff.1 hrd
    rw[List.drop_eq_getElem_cons hl1,h2,List.any_cons]
   rw[hdrop]at hany
   clear hdrop
   have hw:=gz i
   repeat refine aa rfl ?_
   refine cg [(2,.ptr 2 1 0 0),(3,.ptr 3 1 0 0),(5,.sl (D.map eA)),(8,I (i:Nat)),(9,.bool true),(10,I ((0:Nat):Int))] [(2,1,⟨29,6,[eB b],2⟩),(3,1,⟨33,8,[eA a],2⟩)] ⟨rfl,rfl,rfl,rfl,rfl,rfl,rfl,rfl,trivial⟩ ?_
   intro s3
   refine am (fun k:Nat=>k≤b.l.length) (fun k=>[(2,.ptr 2 1 0 0),(3,.ptr 3 1 0 0),(5,.sl (D.map eA)),(8,I (i:Nat)),(9,.bool ((b.l.take k).all (m_ z t r.z.val r.t.val))),(10,I (k:Nat))]) (fun _=>[(2,1,⟨29,6,[eB b],2⟩),(3,1,⟨33,8,[eA a],2⟩)]) (fun k=>b.l.length-k) 0 (Nat.zero_le _) ⟨rfl,rfl,rfl,rfl,rfl,rfl,rfl,rfl,trivial⟩ ?_
   intro k s4 hk
   repeat refine aa rfl ?_
   refine ab rfl ?_ ?_<;>intro h
   ·have hlk:k<b.l.length:=by have:=of_decide_eq_true h;simp only[hml]at this;omega
    clear h
    have hx:=aC (d:=dS) hlk
    have hs:=hl.1 _ (aB hlk)
    have hc0:=bu hck _ (aB hlk)
    have hfr:(b.l.take (k+1)).all (m_ z t r.z.val r.t.val)=((b.l.take k).all (m_ z t r.z.val r.t.val)&&m_ z t r.z.val r.t.val (b.l.getD k dS)):=by
     rw[bY hx,List.all_append]
     simp
    have hwk:IntKind.i64.wrap (((k:Nat):Int)+1)=((k+1:Nat):Int):=by rw[wrap_i64 (by omega) (by omega)];omega
    generalize b.l.getD k dS=S at *
    have zx:Zb S.x:=aE hs.x.1 hs.x.2
    have y1:=rW S hs a (z:=z) (t:=t) (by omega) (by omega)
    have hy:=pc hs ha.z.hq ha.t.hq
    have bx:=bk S.x hs.x
    have e2:=cd r.t (ofQ (S.x:Rat)) (hx:=hrv.t) (hy:=Vq.ofQ (h:=HQ.int)) (by decide) (by decide)
    have h2:HQ (r.t.val*(S.x:Rat)) 9:=@HQ.mul _ _ 5 4 hrv.t.hq HQ.int
    have e3:=c7 r.z (ofQ (r.t.val*(S.x:Rat))) (hx:=hrv.z) (hy:=Vq.ofQ (h:=h2)) (by decide) (by decide)
    have h3:HQ (r.z.val+r.t.val*(S.x:Rat)) 15:=@HQ.add _ _ 5 9 hrv.z.hq h2
    have e4:=jH (ofQ (r.z.val+r.t.val*(S.x:Rat))) (hx:=Vq.ofQ (h:=h3)) (by decide)
    have cr:=tH S.k hs.k hc0 (ofQ (yQ S z t)) (hy:=Vq.ofQ (h:=hy)) (by omega)
    have cl:=wO S.k hs.k hc0 (ofQ (yQ S z t)) (hy:=Vq.ofQ (h:=hy)) (by omega)
    rw[show aI S.k.m (ic S.k.s (yQ S z t) S.k.S.length)=rV S z t from rfl]at cr
    rw[show aI S.k.m (kB S.k.s (yQ S z t) S.k.S.length)=lV S z t from rfl]at cl
    have sr:=jH (ofQ (rV S z t)) (hx:=Vq.ofQ (h:=(lp S.k hs.k _).hq)) (by decide)
    have sl:=jH (ofQ (lV S z t)) (hx:=Vq.ofQ (h:=(lp S.k hs.k _).hq)) (by decide)
    have rn:0≤rV S z t:=uh hc0 (nk _).1
    have ln:0≤lV S z t:=uh hc0 (nh _).1
    have hok:m_ z t r.z.val r.t.val S=decide (¬((0<r.z.val+r.t.val*(S.x:Rat)∧rV S z t≠0)∨(r.z.val+r.t.val*(S.x:Rat)<0∧lV S z t≠0))):=rfl
    have hsg:(sgn (r.z.val+r.t.val*(S.x:Rat))=1∧0<r.z.val+r.t.val*(S.x:Rat))∨(sgn (r.z.val+r.t.val*(S.x:Rat)) = -1∧r.z.val+r.t.val*(S.x:Rat)<0)∨(sgn (r.z.val+r.t.val*(S.x:Rat))=0∧r.z.val+r.t.val*(S.x:Rat)=0):=by
     by_cases h:r.z.val+r.t.val*(S.x:Rat)<0
     ·exact .inr (.inl ⟨qo h,h⟩)
     ·by_cases h0:r.z.val+r.t.val*(S.x:Rat)=0
      ·exact .inr (.inr ⟨gv h0,h0⟩)
      ·have hp:0<r.z.val+r.t.val*(S.x:Rat):=by grind
       exact .inl ⟨kn hp,hp⟩
    have hrr:(sgn (rV S z t)=0∧rV S z t=0)∨(sgn (rV S z t)=1∧rV S z t≠0):=by
     by_cases h:rV S z t=0
     ·exact .inl ⟨gv h,h⟩
     ·exact .inr ⟨kn (by grind),h⟩
    have hll:(sgn (lV S z t)=0∧lV S z t=0)∨(sgn (lV S z t)=1∧lV S z t≠0):=by
     by_cases h:lV S z t=0
     ·exact .inl ⟨gv h,h⟩
     ·exact .inr ⟨kn (by grind),h⟩
    clear rn ln h2 h3 hy zx
    generalize (b.l.take k).all (m_ z t r.z.val r.t.val)=fr at *
    generalize hokg:m_ z t r.z.val r.t.val S=ok at *
    generalize sgn (r.z.val+r.t.val*(S.x:Rat))=sg at *
    generalize sgn (rV S z t)=ur at *
    generalize sgn (lV S z t)=ul at *
    repeat refine aa rfl ?_
    refine aZ rfl rfl rfl rfl rfl rfl rfl hx rfl ?_
    repeat refine aa rfl ?_
    refine ak rfl rfl rfl y1 rfl rfl ?_
    repeat refine aa rfl ?_
    refine ah 17 [67,68,69,70,71,72,73,74,75,76,77,78,79,80,81,82,13] (by decide +kernel) ?_
    repeat refine aa rfl ?_
    refine aZ rfl rfl rfl rfl rfl rfl rfl hrd rfl ?_
    repeat refine aa rfl ?_
    refine aZ rfl rfl rfl rfl rfl rfl rfl hrd rfl ?_
    repeat refine aa rfl ?_
    refine ak rfl rfl rfl bx rfl rfl ?_
    repeat refine aa rfl ?_
    refine ak rfl rfl rfl e2 rfl rfl ?_
    repeat refine aa rfl ?_
    refine ak rfl rfl rfl e3 rfl rfl ?_
    repeat refine aa rfl ?_
    refine aP rfl rfl rfl e4 rfl rfl rfl ?_
    cases fr with
    |false =>
     repeat refine aa rfl ?_
     exact⟨k+1,hlk,by omega,rfl,rfl,rfl,rfl,by rw[hfr];rfl,congrArg I hwk,rfl,rfl,trivial⟩
    |true =>
     rcases hsg with⟨rfl,hd⟩|⟨rfl,hd⟩|⟨rfl,hd⟩
     ·rcases hrr with⟨rfl,hv⟩|⟨rfl,hv⟩
      ·have hk1:ok=true:=by rw[hok,decide_eq_true_eq];rintro(⟨_,h⟩|⟨h,_⟩);exact h hv;grind
       subst hk1
       repeat refine aa rfl ?_
       refine ak rfl rfl rfl cr rfl rfl ?_
       repeat refine aa rfl ?_
       refine aP rfl rfl rfl sr rfl rfl rfl ?_
       repeat refine aa rfl ?_
       exact⟨k+1,hlk,by omega,rfl,rfl,rfl,rfl,by rw[hfr];rfl,congrArg I hwk,rfl,rfl,trivial⟩
      ·have hk1:ok=false:=by rw[hok,decide_eq_false_iff_not];exact fun h=>h (.inl ⟨hd,hv⟩)
       subst hk1
       repeat refine aa rfl ?_
       refine ak rfl rfl rfl cr rfl rfl ?_
       repeat refine aa rfl ?_
       refine aP rfl rfl rfl sr rfl rfl rfl ?_
       repeat refine aa rfl ?_
       exact⟨k+1,hlk,by omega,rfl,rfl,rfl,rfl,by rw[hfr];rfl,congrArg I hwk,rfl,rfl,trivial⟩
     ·rcases hll with⟨rfl,hv⟩|⟨rfl,hv⟩
      ·have hk1:ok=true:=by rw[hok,decide_eq_true_eq];rintro(⟨h,_⟩|⟨_,h⟩);grind;exact h hv
       subst hk1
       repeat refine aa rfl ?_
       refine ak rfl rfl rfl cl rfl rfl ?_
       repeat refine aa rfl ?_
       refine aP rfl rfl rfl sl rfl rfl rfl ?_
       repeat refine aa rfl ?_
       exact⟨k+1,hlk,by omega,rfl,rfl,rfl,rfl,by rw[hfr];rfl,congrArg I hwk,rfl,rfl,trivial⟩
      ·have hk1:ok=false:=by rw[hok,decide_eq_false_iff_not];exact fun h=>h (.inr ⟨hd,hv⟩)
       subst hk1
       repeat refine aa rfl ?_
       refine ak rfl rfl rfl cl rfl rfl ?_
       repeat refine aa rfl ?_
       refine aP rfl rfl rfl sl rfl rfl rfl ?_
       repeat refine aa rfl ?_
       exact⟨k+1,hlk,by omega,rfl,rfl,rfl,rfl,by rw[hfr];rfl,congrArg I hwk,rfl,rfl,trivial⟩
     ·have hk1:ok=true:=by rw[hok,decide_eq_true_eq];rintro(⟨h,_⟩|⟨h,_⟩)<;>grind
      subst hk1
      repeat refine aa rfl ?_
      exact⟨k+1,hlk,by omega,rfl,rfl,rfl,rfl,by rw[hfr];rfl,congrArg I hwk,rfl,rfl,trivial⟩
   ·have hge:k=b.l.length:=by have:=of_decide_eq_false h;simp only[hml]at this;omega
    clear h
    subst hge
    rw[List.take_length,←dM]
    generalize dM b.l z t r.z.val r.t.val=fb at *
    repeat refine aa rfl ?_
    refine ab rfl ?_ ?_<;>intro h
    ·subst h
     rw[Bool.true_or]at hany
     subst hany
     repeat refine aa rfl ?_
     exact bi rfl rfl rfl
    ·subst h
     rw[Bool.false_or]at hany
     repeat refine aa rfl ?_
     exact⟨i+1,⟨hlt,hany⟩,by omega,rfl,rfl,rfl,congrArg I hw,rfl,rfl,trivial⟩
  ·have hge:i=D.length:=by have:=of_decide_eq_false h;simp only[hmD]at this;omega
   clear h
   subst hge
   rw[List.drop_length]at hany
   subst hany
   repeat refine aa rfl ?_
   exact bi rfl rfl rfl
theorem uf:∀ {l m:List Int},l.Pairwise (·<·)→m.Pairwise (·<·)→(∀x,x∈l↔x∈m)→l=m
 |[],[],_,_,_=>rfl
 |[],y::m,_,_,h=>by have:=(h y).2 (by simp);cases this
 |x::l,[],_,_,h=>by have:=(h x).1 (by simp);cases this
 |x::l,y::m,hl,hm,h=>by
  obtain⟨hl1,hl2⟩:=List.pairwise_cons.1 hl
  obtain⟨hm1,hm2⟩:=List.pairwise_cons.1 hm
  have hxy:x=y:=by
   have h1:=(h x).1 (by simp)
   have h2:=(h y).2 (by simp)
   rcases List.mem_cons.1 h1 with e|e
   ·exact e
   ·rcases List.mem_cons.1 h2 with e2|e2
    ·exact e2.symm
    ·have:=hm1 x e
     have:=hl1 y e2
     omega
  subst hxy
  congr 1
  refine uf hl2 hm2 fun z=>⟨fun hz=>?_,fun hz=>?_⟩
  ·rcases List.mem_cons.1 ((h z).1 (List.mem_cons_of_mem _ hz)) with e|e
   ·have:=hl1 z hz;omega
   ·exact e
  ·rcases List.mem_cons.1 ((h z).2 (List.mem_cons_of_mem _ hz)) with e|e
   ·have:=hm1 z hz;omega
   ·exact e
theorem qO {l:List Int} (hs:l.Pairwise (·≤·)):(Lib.compact l).Pairwise (·<·):=by
 rw[Lib.compact,Lib.compactUpTo,List.pairwise_map]
 have h:((List.range l.length).filter (Lib.keeps l.toArray)).Pairwise (·<·):=List.pairwise_lt_range.filter _
 refine h.imp_of_mem fun {i j} hi hj hij=>?_
 have hi:=List.mem_range.1 (List.mem_filter.1 hi).1
 have hk:=(List.mem_filter.1 hj).2
 have hj:=List.mem_range.1 (List.mem_filter.1 hj).1
 simp only[List.getElem!_toArray]
 rw[Lib.keeps,decide_eq_true_eq]at hk
 simp only[List.getElem!_toArray]at hk
 rw[getElem!_pos l j hj,getElem!_pos l (j-1) (by omega)]at hk
 rw[getElem!_pos l j hj,getElem!_pos l i hi]
 have h1:l[i]≤l[j-1]:=by
  rcases Nat.lt_or_ge i (j-1) with g|g
  ·exact List.pairwise_iff_getElem.1 hs i (j-1) hi (by omega) g
  ·have:i=j-1:=by omega
   subst this;exact Int.le_refl _
 have h2:l[j-1]≤l[j]:=List.pairwise_iff_getElem.1 hs (j-1) j (by omega) hj (by omega)
 rcases hk with hk|hk
 ·omega
 ·omega
theorem to (l:List SR):(aW l).Pairwise (·<·):=by
 refine qO ?_
 have:=List.pairwise_mergeSort (le:=fun x y:Int=>decide (x≤y)) (fun a b c h1 h2=>by simp at *;omega) (fun a b=>by simp;omega) (l.map (·.x))
 refine List.Pairwise.imp ?_ this
 intro a b h
 simpa using h
theorem tp {l:List SR} {x:Int}:x∈aW l↔∃s∈l,s.x=x:=⟨d7,fun⟨_,hs,e⟩=>e▸cy hs⟩
theorem Av {A:List Int} {x:Int} {j:Nat} (hA:A.Pairwise (·<·)) {y:Int} (hy:A[j]? = some y) (hx:x<y):∀z∈A.drop j,x<z:=by
 obtain⟨hl,e⟩:=List.getElem?_eq_some_iff.1 hy
 have h:=hA.sublist (List.drop_sublist j A)
 rw[List.drop_eq_getElem_cons hl,e]at h ⊢
 intro z hz
 rcases List.mem_cons.1 hz with rfl|hz
 ·exact hx
 ·have:=(List.pairwise_cons.1 h).1 z hz;omega
theorem Br {A:List Int} {x:Int} {j:Nat} (hA:A.Pairwise (·<·)) (h1:∀y∈A.take j,y<x) (h2:∀y∈A.drop j,x<y):(A.take j++[x]++A.drop j).Pairwise (·<·):=by
 have h3:=hA.sublist (List.take_sublist j A)
 have h4:=hA.sublist (List.drop_sublist j A)
 rw[List.pairwise_append,List.pairwise_append]
 refine⟨⟨h3,List.pairwise_singleton _ _,fun a ha b hb=>?_⟩,h4,fun a ha b hb=>?_⟩
 ·rw[List.mem_singleton.1 hb];exact h1 a ha
 ·have hb2:=h2 b hb
  rcases List.mem_append.1 ha with ha|ha
  ·have:=h1 a ha;omega
  ·rw[List.mem_singleton.1 ha];exact hb2
theorem Bt {A:List Int} {x:Int} {j:Nat} (z:Int):z∈A.take j++[x]++A.drop j↔z∈A∨z=x:=by
 have h:z∈A↔z∈A.take j∨z∈A.drop j:=by rw[←List.mem_append,List.take_append_drop]
 rw[h];simp only[List.mem_append,List.mem_singleton]
 constructor
 ·rintro((q|q)|q)
  ·exact .inl (.inl q)
  ·exact .inr q
  ·exact .inl (.inr q)
 ·rintro((q|q)|q)
  ·exact .inl (.inl q)
  ·exact .inr q
  ·exact .inl (.inr q)
theorem Bs {A:List Int} {x:Int} {j:Nat}:(A.take j++[x]++A.drop j).length=A.length+1:=by simp;omega
def PlInv (l:List SR) (i:Nat) (A:List Int):Prop:=A.length≤i∧A.Pairwise (·<·)∧∀x,x∈A↔∃s∈l.take i,s.x=x
theorem zD {l:List SR} {i:Nat} {s:SR} (hs:l[i]? = some s) (x:Int):(∃q∈l.take (i+1),q.x=x)↔(∃q∈l.take i,q.x=x)∨x=s.x:=by
 rw[cb hs]
 constructor
 ·rintro⟨q,hq,rfl⟩
  rcases List.mem_append.1 hq with hq|hq
  ·exact .inl ⟨q,hq,rfl⟩
  ·rw[List.mem_singleton.1 hq];exact .inr rfl
 ·rintro(⟨q,hq,rfl⟩|rfl)
  ·exact⟨q,List.mem_append_left _ hq,rfl⟩
  ·exact⟨s,List.mem_append_right _ (List.mem_singleton_self _),rfl⟩
theorem PlInv.same {l:List SR} {i:Nat} {A:List Int} {s:SR} (h:PlInv l i A) (hs:l[i]? = some s) (hm:s.x∈A):PlInv l (i+1) A:=by
 obtain⟨h1,h2,h3⟩:=h
 refine⟨by omega,h2,fun x=>?_⟩
 rw[zD hs,←h3]
 constructor
 ·exact .inl
 ·rintro(h|rfl)
  ·exact h
  ·exact hm
theorem PlInv.more {l:List SR} {i:Nat} {A:List Int} {s:SR} (h:PlInv l i A) (hs:l[i]? = some s) {j:Nat} (g1:∀y∈A.take j,y<s.x) (g2:∀y∈A.drop j,s.x<y):PlInv l (i+1) (A.take j++[s.x]++A.drop j):=by
 obtain⟨h1,h2,h3⟩:=h
 refine⟨by rw[Bs];omega,Br h2 g1 g2,fun x=>?_⟩
 rw[Bt,zD hs,←h3]
theorem PlInv.all {l:List SR} {A:List Int} (h:PlInv l l.length A):A=aW l:=by
 obtain⟨-,h2,h3⟩:=h
 rw[List.take_length]at h3
 exact uf h2 (to l) fun x=>by rw[h3,tp]
theorem pF (z:Int):(eN z).length=1:=rfl
set_option maxRecDepth 20000 in
theorem rX (l:List SR) (h12:l.length≤1000):Ret Tryz.prog .shared 106 [.sl (l.map eS)] (.sl ((aW l).map eN)):=by
 have hml:(l.map eS).length=l.length:=by simp
 refine Ret.of_pwp layOk mixed Go.Proofs.Tryz.func106 rfl (by decide) rfl rfl ?_
 repeat refine aa rfl ?_
 refine ay (Ghost.nilsl (t:=3) rfl) ?_
 refine am (fun q:Nat × List Int=>q.1≤l.length∧PlInv l q.1 q.2) (fun q=>[(0,.sl (l.map eS)),(3,.sl (q.2.map eN)),(4,I (q.1:Nat))]) (fun _=>[]) (fun q=>l.length-q.1) (0,[]) ⟨Nat.zero_le _,Nat.le_refl _,.nil,by simp⟩ ⟨rfl,rfl,rfl,trivial⟩ ?_
 rintro⟨i,A⟩ s ⟨hi,hA⟩
 simp only at hi hA
 dsimp only
 repeat refine aa rfl ?_
 refine ab rfl ?_ ?_<;>intro h
 ·have hlt:i<l.length:=by have:=of_decide_eq_true h;omega
  clear h
  obtain⟨x,hx⟩:=aL hlt
  have hAl:=hA.1
  have hmA:(A.map eN).length=A.length:=by simp
  have hw:=gz i
  repeat refine aa rfl ?_
  refine am (fun j:Nat=>j≤A.length∧∀y∈A.take j,y<x.x) (fun j=>[(0,.sl (l.map eS)),(3,.sl (A.map eN)),(4,I (i:Nat)),(5,I (j:Nat))]) (fun _=>[]) (fun j=>A.length-j) 0 ⟨Nat.zero_le _,by simp⟩ ⟨rfl,rfl,rfl,rfl,trivial⟩ ?_
  intro j s ⟨hj,hjl⟩
  have hwj:IntKind.i64.wrap (((j:Nat):Int)+1)=((j+1:Nat):Int):=by rw[wrap_i64 (by omega) (by omega)];omega
  repeat refine aa rfl ?_
  refine ah 16 [13,14,15,16,17,18,19,20,21,22,23,24,25,26,27,28] (by decide +kernel) ?_
  repeat refine aa rfl ?_
  refine dr rfl rfl rfl ?_ ?_<;>intro h
  ·have hjlt:j<A.length:=by have:=of_decide_eq_true h;omega
   clear h
   obtain⟨y,hy⟩:=aL hjlt
   repeat refine aa rfl ?_
   refine aZ rfl rfl rfl rfl rfl rfl rfl hy rfl ?_
   repeat refine aa rfl ?_
   refine aZ rfl rfl rfl rfl rfl rfl rfl hx rfl ?_
   repeat refine aa rfl ?_
   refine ab rfl ?_ ?_<;>intro h
   ·have hyx:y<x.x:=of_decide_eq_true h
    clear h
    repeat refine aa rfl ?_
    refine⟨j+1,⟨hjlt,fun z hz=>?_⟩,by omega,rfl,rfl,rfl,congrArg I hwj,trivial⟩
    rw[cb hy]at hz
    rcases List.mem_append.1 hz with hz|hz
    ·exact hjl z hz
    ·rw[List.mem_singleton.1 hz];exact hyx
   ·have hyx:¬y<x.x:=of_decide_eq_false h
    clear h
    repeat refine aa rfl ?_
    refine ah 16 [31,32,33,34,35,36,37,38,39,40,41,42,43,44,45,46] (by decide +kernel) ?_
    repeat refine aa rfl ?_
    refine dr rfl rfl rfl ?_ ?_<;>intro h
    rotate_left
    ·exfalso
     have:=of_decide_eq_false h
     omega
    clear h
    repeat refine aa rfl ?_
    refine aZ rfl rfl rfl rfl rfl rfl rfl hy rfl ?_
    repeat refine aa rfl ?_
    refine aZ rfl rfl rfl rfl rfl rfl rfl hx rfl ?_
    repeat refine aa rfl ?_
    refine ab rfl ?_ ?_<;>intro h
    ·have hxy:y=x.x:=of_decide_eq_true h
     clear h
     repeat refine aa rfl ?_
     exact⟨(i+1,A),⟨hlt,hA.same hx (by rw[←hxy];exact List.mem_of_getElem? hy)⟩,by simp only;omega,rfl,rfl,congrArg I hw,trivial⟩
    ·have hxy:y≠x.x:=of_decide_eq_false h
     clear h
     have hI:=hA.more hx hjl (Av hA.2.1 hy (by omega))
     repeat refine aa rfl ?_
     refine bH rfl rfl (uS 0 j rfl rfl rfl rfl (.inl ⟨rfl,rfl⟩) (.inr ⟨_,_,rfl,rfl⟩) (Nat.zero_le _) hj pF) ?_
     repeat refine aa rfl ?_
     refine ar (zi rfl rfl rfl rfl rfl rfl rfl rfl (by repeat' constructor) (by intro row hr;obtain⟨_,_,rfl⟩:=List.mem_map.1 hr;rfl) (by first|(simp;omega)|simp) (by first|(simp;omega)|simp) ?_)
     repeat refine aa rfl ?_
     refine aZ rfl rfl rfl rfl rfl rfl rfl hx rfl ?_
     repeat refine aa rfl ?_
     refine bH rfl rfl (c8 rfl rfl rfl rfl rfl rfl rfl rfl rfl rfl (by repeat' constructor) rfl) ?_
     refine ar (bE 1 rfl rfl rfl rfl rfl rfl rfl rfl rfl rfl rfl (by repeat' constructor) (by intro row hr;first|(simp at hr;subst hr;rfl)|simp at hr) rfl rfl (by simp;omega) (by simp;omega) ?_)
     repeat refine aa rfl ?_
     refine bH rfl rfl (uS j A.length rfl rfl rfl rfl (.inr ⟨_,_,rfl,rfl⟩) (.inl ⟨rfl,rfl⟩) hj (Nat.le_refl _) pF) ?_
     repeat refine aa rfl ?_
     refine ar (bE 1 rfl rfl rfl rfl rfl rfl rfl rfl rfl rfl rfl (by repeat' constructor) (by intro row hr;obtain⟨_,_,rfl⟩:=List.mem_map.1 hr;rfl) rfl rfl (by first|(simp;omega)|simp) (by first|(simp;omega)|simp) ?_)
     (repeat ((fail_if_success (with_reducible refine aT 4 ?_));refine dh rfl ?_))
     refine ay (Ghost.takeL (k:=51) (t:=3) (A.take j++[x.x]++A.drop j) rfl rfl (by rw[List.take_length,List.map_append,List.map_append,List.drop_zero];rfl) rfl (fun _=>rfl)) ?_
     repeat refine aa rfl ?_
     exact⟨(i+1,A.take j++[x.x]++A.drop j),⟨hlt,hI⟩,by simp only;omega,rfl,rfl,congrArg I hw,trivial⟩
  ·have hje:j=A.length:=by have:=of_decide_eq_false h;omega
   clear h
   have hI:=hA.more hx hjl (by rw[hje,List.drop_length];intro z hz;cases hz)
   repeat refine aa rfl ?_
   refine ah 16 [31,32,33,34,35,36,37,38,39,40,41,42,43,44,45,46] (by decide +kernel) ?_
   repeat refine aa rfl ?_
   refine dr rfl rfl rfl ?_ ?_<;>intro h
   ·exfalso
    have:=of_decide_eq_true h
    omega
   clear h
   repeat refine aa rfl ?_
   refine bH rfl rfl (uS 0 j rfl rfl rfl rfl (.inl ⟨rfl,rfl⟩) (.inr ⟨_,_,rfl,rfl⟩) (Nat.zero_le _) hj pF) ?_
   repeat refine aa rfl ?_
   refine ar (zi rfl rfl rfl rfl rfl rfl rfl rfl (by repeat' constructor) (by intro row hr;obtain⟨_,_,rfl⟩:=List.mem_map.1 hr;rfl) (by first|(simp;omega)|simp) (by first|(simp;omega)|simp) ?_)
   repeat refine aa rfl ?_
   refine aZ rfl rfl rfl rfl rfl rfl rfl hx rfl ?_
   repeat refine aa rfl ?_
   refine bH rfl rfl (c8 rfl rfl rfl rfl rfl rfl rfl rfl rfl rfl (by repeat' constructor) rfl) ?_
   refine ar (bE 1 rfl rfl rfl rfl rfl rfl rfl rfl rfl rfl rfl (by repeat' constructor) (by intro row hr;first|(simp at hr;subst hr;rfl)|simp at hr) rfl rfl (by simp;omega) (by simp;omega) ?_)
   repeat refine aa rfl ?_
   refine bH rfl rfl (uS j A.length rfl rfl rfl rfl (.inr ⟨_,_,rfl,rfl⟩) (.inl ⟨rfl,rfl⟩) hj (Nat.le_refl _) pF) ?_
   repeat refine aa rfl ?_
   refine ar (bE 1 rfl rfl rfl rfl rfl rfl rfl rfl rfl rfl rfl (by repeat' constructor) (by intro row hr;obtain⟨_,_,rfl⟩:=List.mem_map.1 hr;rfl) rfl rfl (by first|(simp;omega)|simp) (by first|(simp;omega)|simp) ?_)
   (repeat ((fail_if_success (with_reducible refine aT 4 ?_));refine dh rfl ?_))
   refine ay (Ghost.takeL (k:=51) (t:=3) (A.take j++[x.x]++A.drop j) rfl rfl (by rw[List.take_length,List.map_append,List.map_append,List.drop_zero];rfl) rfl (fun _=>rfl)) ?_
   repeat refine aa rfl ?_
   exact⟨(i+1,A.take j++[x.x]++A.drop j),⟨hlt,hI⟩,by simp only;omega,rfl,rfl,congrArg I hw,trivial⟩
 ·have hge:i=l.length:=by have:=of_decide_eq_false h;omega
  subst hge
  clear h
  rw[hA.all]
  repeat refine aa rfl ?_
  exact aF rfl rfl rfl
def jk (u x:Int):AR:=⟨ofQ ((-u*x:Int):Rat),ofQ (u:Rat)⟩
theorem C8 (x:Int):jk 1 x=iJ x:=by rw[jk,iJ,show(-1*x:Int) = -x by omega]
theorem C7 (x:Int):jk (-1) x=nS x:=by rw[jk,nS,show(-(-1)*x:Int)=x by omega]
def j_ (P:List Int):Nat→List AR
 |0=>P.map (jk 1)++P.map (jk (-1))
 |1=>P.map (jk (-1))
 |_=>[]
theorem o8 (l:List SR):bI l=j_ (aW l) 0:=by
 rw[bI,j_]
 congr 1
 ·exact List.map_congr_left fun x _=>(C8 x).symm
 ·exact List.map_congr_left fun x _=>(C7 x).symm
theorem wN (P:List Int) {k:Nat} (hk:k<2):j_ P k=P.map (jk (1-2*(k:Int)))++j_ P (k+1):=by
 match k,hk with
 |0,_=>rfl
 |1,_ =>
  show P.map (jk (-1))=P.map (jk (1-2*((1:Nat):Int)))++[]
  rw[List.append_nil];rfl
theorem BW {l:List SR} {k:Nat} (hk:k<2) {x:Int} (hx:x∈aW l):jk (1-2*(k:Int)) x∈bI l:=by
 rw[o8]
 match k,hk with
 |0,_=>exact List.mem_append_left _ (List.mem_map.2 ⟨x,hx,rfl⟩)
 |1,_=>exact List.mem_append_right _ (List.mem_map.2 ⟨x,hx,rfl⟩)
set_option maxRecDepth 20000 in
theorem qe (b:BR) (hb:b.Ok):Ret Tryz.prog .shared 49 [.agg (eB b)] (cA b):=by
 have w1:=bk 1 ⟨by decide,by decide⟩
 have w0:=bk 0 ⟨by decide,by decide⟩
 have hd:=ke b hb bz lR (by decide) (by decide)
 have ht:=rX b.l (by have:=hb.few.1;omega)
 have hva0:∀r∈bI b.l,Ret Tryz.prog .shared 105 [.agg (eB b),.agg (eA r)] (.bool (cT b r)):=fun r hr=>ke b hb r (l_ hb.chkL hr) (by decide) (by decide)
 have hva:∀k:Nat,k<2→∀x∈aW b.l,Ret Tryz.prog .shared 105 [.agg (eB b),.agg (eA (jk (1-2*(k:Int)) x))] (.bool (cT b (jk (1-2*(k:Int)) x))):=fun k hk x hx=>hva0 _ (BW hk hx)
 clear hva0
 rw[show fT b bz.z.val bz.t.val=cT b bz from rfl]at hd
 have hrg:∀x∈aW b.l,-1000000≤x∧x≤1000000:=fun x hx=>dx hb.chkL hx
 have hPl:(aW b.l).length≤1000:=by
  have:=fj b.l
  have:=hb.few.1
  omega
 generalize hR:cA b=R
 rw[cA,o8]at hR
 generalize aW b.l=P at *
 have hml:(P.map eN).length=P.length:=by simp
 generalize hfn:cT b=fn at *
 clear hfn
 obtain⟨w,ba,l⟩:=b
 simp only at *
 rw[bz]at *
 by_cases h1:fn ⟨ofQ ((1:Int):Rat),ofQ ((0:Int):Rat)⟩=true
 ·rw[if_pos h1]at hR
  rw[h1]at hd
  subst hR
  refine Ret.of_pwp layOk mixed Go.Proofs.Tryz.func49 rfl (by decide) rfl rfl ?_
  repeat refine aa rfl ?_
  refine ak rfl rfl rfl w1 rfl rfl ?_
  repeat refine aa rfl ?_
  refine ak rfl rfl rfl w0 rfl rfl ?_
  repeat refine aa rfl ?_
  refine aP rfl rfl rfl hd rfl rfl rfl ?_
  repeat refine aa rfl ?_
  exact aF rfl rfl rfl
 ·rw[if_neg h1]at hR
  rw[Bool.not_eq_true]at h1
  rw[h1]at hd
  refine Ret.of_pwp layOk mixed Go.Proofs.Tryz.func49 rfl (by decide) rfl rfl ?_
  repeat refine aa rfl ?_
  refine ak rfl rfl rfl w1 rfl rfl ?_
  repeat refine aa rfl ?_
  refine ak rfl rfl rfl w0 rfl rfl ?_
  repeat refine aa rfl ?_
  refine aP rfl rfl rfl hd rfl rfl rfl ?_
  repeat refine aa rfl ?_
  refine ak rfl rfl rfl ht rfl rfl ?_
  repeat refine aa rfl ?_
  refine am (fun k:Nat=>k≤2∧(j_ P k).find? fn=(j_ P 0).find? fn) (fun k=>[(1,.ptr 1 1 0 0),(2,.ptr 2 1 0 0),(5,.sl (P.map eN)),(6,I (1-2*(k:Int)))]) (fun _=>[(1,1,⟨29,6,[eB ⟨w,ba,l⟩],2⟩),(2,1,⟨38,8,[zN++zN],2⟩)]) (fun k=>2-k) 0 ⟨by decide,rfl⟩ ⟨rfl,rfl,rfl,rfl,rfl,rfl,trivial⟩ ?_
  intro k s ⟨hk2,hF⟩
  repeat refine aa rfl ?_
  refine ab rfl ?_ ?_<;>intro h
  ·have hk:k<2:=by have:=of_decide_eq_true h;omega
   clear h
   have hvk:=hva k hk
   rw[wN P hk]at hF
   have hwk:IntKind.i64.wrap ((1-2*(k:Int))-2)=1-2*((k+1:Nat):Int):=by rw[wrap_i64 (by omega) (by omega)];omega
   have hu:(1-2*(k:Int))=1∨(1-2*(k:Int)) = -1:=by omega
   generalize hU:1-2*(k:Int)=u at *
   have hn:IntKind.i64.wrap (0-u) = -u:=by rw[wrap_i64 (by omega) (by omega)];omega
   have wu:=bk u (by rcases hu with rfl|rfl<;>exact⟨by decide,by decide⟩)
   repeat refine aa rfl ?_
   refine am (fun j:Nat=>j≤P.length∧((P.drop j).map (jk u)++j_ P (k+1)).find? fn=(j_ P 0).find? fn) (fun j=>[(1,.ptr 1 1 0 0),(2,.ptr 2 1 0 0),(5,.sl (P.map eN)),(6,I u),(7,I (j:Nat))]) (fun _=>[(1,1,⟨29,6,[eB ⟨w,ba,l⟩],2⟩),(2,1,⟨38,8,[zN++zN],2⟩)]) (fun j=>P.length-j) 0 ⟨Nat.zero_le _,by rw[List.drop_zero];exact hF⟩ ⟨rfl,rfl,rfl,rfl,rfl,rfl,rfl,trivial⟩ ?_
   intro j s ⟨hj,hG⟩
   repeat refine aa rfl ?_
   refine ab rfl ?_ ?_<;>intro h
   ·have hlt:j<P.length:=by have:=of_decide_eq_true h;omega
    clear h
    obtain⟨x,hx⟩:=aL hlt
    have hxm:=List.mem_of_getElem? hx
    have hxr:=hrg x hxm
    have hrr:=hvk x hxm
    have hb2 : -1000000 ≤ -u*x ∧ -u*x≤1000000:=by rcases hu with rfl|rfl<;>omega
    have hm:IntKind.i64.wrap (-u*x) = -u*x:=wrap_i64 (by omega) (by omega)
    have wx:=bk (-u*x) ⟨by omega,by omega⟩
    have hw:=gz j
    have hdr:P.drop j=x::P.drop (j+1):=by
     obtain⟨hl,e⟩:=List.getElem?_eq_some_iff.1 hx
     rw[List.drop_eq_getElem_cons hl,e]
    rw[hdr,List.map_cons,List.cons_append,List.find?_cons]at hG
    rw[show(jk u x)=⟨ofQ ((-u*x:Int):Rat),ofQ (u:Rat)⟩ from rfl]at hG hrr
    cases hfr:fn ⟨ofQ ((-u*x:Int):Rat),ofQ (u:Rat)⟩ with
    |true =>
     rw[hfr]at hrr hG
     simp only at hG
     rw[←hG]at hR
     simp only at hR
     subst hR
     repeat refine aa rfl ?_
     rw[hn]
     repeat refine aa rfl ?_
     refine aZ rfl rfl rfl rfl rfl rfl rfl hx rfl ?_
     repeat refine aa rfl ?_
     rw[hm]
     refine ak rfl rfl rfl wx rfl rfl ?_
     repeat refine aa rfl ?_
     refine ak rfl rfl rfl wu rfl rfl ?_
     repeat refine aa rfl ?_
     refine aP rfl rfl rfl hrr rfl rfl rfl ?_
     repeat refine aa rfl ?_
     exact aF rfl rfl rfl
    |false =>
     rw[hfr]at hrr hG
     simp only at hG
     repeat refine aa rfl ?_
     rw[hn]
     repeat refine aa rfl ?_
     refine aZ rfl rfl rfl rfl rfl rfl rfl hx rfl ?_
     repeat refine aa rfl ?_
     rw[hm]
     refine ak rfl rfl rfl wx rfl rfl ?_
     repeat refine aa rfl ?_
     refine ak rfl rfl rfl wu rfl rfl ?_
     repeat refine aa rfl ?_
     refine aP rfl rfl rfl hrr rfl rfl rfl ?_
     repeat refine aa rfl ?_
     exact⟨j+1,⟨hlt,hG⟩,by omega,rfl,rfl,rfl,rfl,congrArg I hw,rfl,rfl,trivial⟩
   ·have hie:j=P.length:=by have:=of_decide_eq_false h;omega
    clear h
    rw[hie,List.drop_length,List.map_nil,List.nil_append]at hG
    repeat refine aa rfl ?_
    exact⟨k+1,⟨hk,hG⟩,by omega,rfl,rfl,rfl,congrArg I hwk,rfl,rfl,trivial⟩
  ·have hk:k=2:=by have:=of_decide_eq_false h;omega
   clear h
   subst hk
   have hF:none=(j_ P 0).find? fn:=hF
   rw[←hF]at hR
   simp only at hR
   subst hR
   repeat refine aa rfl ?_
   exact aF rfl rfl rfl
theorem tg {b:BR} (hb:b.Ok) {z t z' t':Rat} (h:(bd b).Bal z t) (h':(bd b).Bal z' t'):cw b z' t'=cw b z t:=by
 have h1:=gL hb h
 have h2:=gL hb h'
 cases e:cw b z t with
 |false =>
  obtain⟨e1,e2⟩:=h1.1 e z' t' h'
  subst e1 e2
  exact e
 |true =>
  cases e':cw b z' t' with
  |true=>rfl
  |false =>
   obtain⟨e1,e2⟩:=h2.1 e' z t h
   subst e1 e2
   rw[e]at e'
   cases e'
set_option maxRecDepth 20000 in
theorem lF (b:BR) (r:AR) (e:Int) (he:e≠0) (h49:Ret Tryz.prog .shared 49 [.agg (eB b)] (.tup [.agg (eA r),I e])):Ret Tryz.prog .shared 14 [.agg (eB b)] (.tup [.agg zS,.agg (eA r),I e]):=by
 refine Ret.of_pwp layOk mixed Go.Proofs.Tryz.func14 rfl (by decide) rfl rfl ?_
 repeat refine aa rfl ?_
 refine ak rfl rfl rfl h49 rfl rfl ?_
 repeat refine aa rfl ?_
 refine ab rfl ?_ ?_<;>intro h
 ·clear h
  repeat refine aa rfl ?_
  refine bt [2,3] [3,4] (by decide +kernel) ?_
  repeat refine aa rfl ?_
  exact aF rfl rfl rfl
 ·exfalso
  simp at h
  exact he h
set_option maxRecDepth 20000 in
theorem qf (b:BR) (a:AR) (h49:Ret Tryz.prog .shared 49 [.agg (eB b)] (.tup [.agg (zN++zN),I 0])) (h50:Ret Tryz.prog .shared 50 [.agg (eB b)] (.tup [.agg (eA a),.bool true]))
  (h51:Ret Tryz.prog .shared 51 [.agg (eB b),.agg (eA a)] (.bool true)):Ret Tryz.prog .shared 14 [.agg (eB b)] (.tup [.agg zS,.agg (zN++zN),I 14]):=by
 refine Ret.of_pwp layOk mixed Go.Proofs.Tryz.func14 rfl (by decide) rfl rfl ?_
 repeat refine aa rfl ?_
 refine ak rfl rfl rfl h49 rfl rfl ?_
 repeat refine aa rfl ?_
 refine ak rfl rfl rfl h50 rfl rfl ?_
 repeat refine aa rfl ?_
 refine aP rfl rfl rfl h51 rfl rfl rfl ?_
 repeat refine aa rfl ?_
 exact aF rfl rfl rfl
set_option maxRecDepth 20000 in
theorem tI (b:BR) (a:AR) (F:List RR) (h49:Ret Tryz.prog .shared 49 [.agg (eB b)] (.tup [.agg (zN++zN),I 0])) (h50:Ret Tryz.prog .shared 50 [.agg (eB b)] (.tup [.agg (eA a),.bool true]))
  (h51:Ret Tryz.prog .shared 51 [.agg (eB b),.agg (eA a)] (.bool false)) (h52:Ret Tryz.prog .shared 52 [.sl (b.l.map eS),.agg (eA a)] (.sl (F.map eR))):Ret Tryz.prog .shared 14 [.agg (eB b)] (.tup [.agg (sW a F),.agg (zN++zN),I 0]):=by
 obtain⟨w,ba,l⟩:=b
 simp only at *
 refine Ret.of_pwp layOk mixed Go.Proofs.Tryz.func14 rfl (by decide) rfl rfl ?_
 repeat refine aa rfl ?_
 refine ak rfl rfl rfl h49 rfl rfl ?_
 repeat refine aa rfl ?_
 refine ak rfl rfl rfl h50 rfl rfl ?_
 repeat refine aa rfl ?_
 refine aP rfl rfl rfl h51 rfl rfl rfl ?_
 repeat refine aa rfl ?_
 refine bt [2,3] [7,8] (by decide +kernel) ?_
 repeat refine aa rfl ?_
 refine ak rfl rfl rfl h52 rfl rfl ?_
 repeat refine aa rfl ?_
 exact aF rfl rfl rfl
set_option maxRecDepth 20000 in
theorem lE (b:BR) (r:AR) (e:Int) (he:e≠0) (h49:Ret Tryz.prog .shared 49 [.agg (eB b)] (.tup [.agg (eA r),I e])):Ret Tryz.prog .shared 15 [.agg (eB b)] (.tup [.nil,I e]):=by
 refine Ret.of_pwp layOk mixed Go.Proofs.Tryz.func15 rfl (by decide) rfl rfl ?_
 repeat refine aa rfl ?_
 refine ak rfl rfl rfl h49 rfl rfl ?_
 repeat refine aa rfl ?_
 refine ab rfl ?_ ?_<;>intro h
 ·clear h
  repeat refine aa rfl ?_
  exact aF rfl rfl rfl
 ·exfalso
  simp at h
  exact he h
set_option maxRecDepth 20000 in
theorem tG (b:BR) (a:AR) (F:List RR) (h49:Ret Tryz.prog .shared 49 [.agg (eB b)] (.tup [.agg (zN++zN),I 0])) (h50:Ret Tryz.prog .shared 50 [.agg (eB b)] (.tup [.agg (eA a),.bool true]))
  (h52:Ret Tryz.prog .shared 52 [.sl (b.l.map eS),.agg (eA a)] (.sl (F.map eR))):Ret Tryz.prog .shared 15 [.agg (eB b)] (.tup [.sl (F.map eR),I 0]):=by
 obtain⟨w,ba,l⟩:=b
 simp only at *
 refine Ret.of_pwp layOk mixed Go.Proofs.Tryz.func15 rfl (by decide) rfl rfl ?_
 repeat refine aa rfl ?_
 refine ak rfl rfl rfl h49 rfl rfl ?_
 repeat refine aa rfl ?_
 refine ak rfl rfl rfl h50 rfl rfl ?_
 repeat refine aa rfl ?_
 refine ak rfl rfl rfl h52 rfl rfl ?_
 repeat refine aa rfl ?_
 exact aF rfl rfl rfl
theorem wK (b:BR) (hg:b.Good) (h0:bq b=0):Ret Tryz.prog .shared 14 [.agg (eB b)] (dR b).pv∧Ret Tryz.prog .shared 15 [.agg (eB b)] (.tup [.sl ((cK b).1.map eR),I (cK b).2]):=by
 rw[dR,cK,if_pos h0,if_pos h0]
 obtain⟨hb,hs,h40⟩:=hg.2 h0
 have h93:=qe b hb
 rw[cA]at h93
 by_cases h1:cT b bz=true
 ·rw[if_pos h1]at h93
  rw[if_pos h1,if_pos h1]
  exact⟨(lF b bz 12 (by decide) h93).weak (WeakL.refl _) (WeakL.tup (.cons fN.agg (WeakL.refl _))),(lE b bz 12 (by decide) h93).weak (WeakL.refl _) (WeakL.tup (.cons .nil (WeakL.refl _)))⟩
 ·rw[if_neg h1]at h93
  rw[if_neg h1,if_neg h1]
  cases h2:(bI b.l).find? (cT b) with
  |some r =>
   rw[h2]at h93
   exact⟨(lF b r 13 (by decide) h93).weak (WeakL.refl _) (WeakL.tup (.cons fN.agg (WeakL.refl _))),(lE b r 13 (by decide) h93).weak (WeakL.refl _) (WeakL.tup (.cons .nil (WeakL.refl _)))⟩
  |none =>
   rw[h2]at h93
   have hn:=iO h1 h2
   obtain⟨_,hbal,hz,ht⟩:=im hb hs hn
   obtain⟨a,ha⟩:=B_ hb hbal
   obtain⟨hab,az,at'⟩:=Ax hb ha
   have va:Va ⟨ofQ a.1,ofQ a.2⟩ a.1 a.2 12000 12000:=⟨Vq.ofQ (h:=az),Vq.ofQ (h:=at')⟩
   have h50:=tN b hb ha
   have h51:=tD b hb ⟨ofQ a.1,ofQ a.2⟩ (ha:=va) (by decide)
   have h52:=lD b.l hb.lim.l hb.chkL (by have:=hb.few.1;omega) ⟨ofQ a.1,ofQ a.2⟩ (ha:=va) (by decide)
   rw[wP,tg hb hbal hab]at h51
   rw[yc hb hbal hab]at h52
   refine⟨?_,tG b _ _ h93 h50 h52⟩
   dsimp only
   cases hl:cw b (g_ b).1 (g_ b).2 with
   |true =>
    rw[hl]at h51
    exact(qf b _ h93 h50 h51).weak (WeakL.refl _) (WeakL.tup (.cons fN.agg (.cons fM.agg (WeakL.refl _))))
   |false =>
    rw[hl]at h51
    obtain⟨u1,u2⟩:=(gL hb hbal).1 hl _ _ hab
    rw[eP,u1,u2]at h50
    rw[u1,u2]at h51 h52
    exact(tI b _ _ h93 h50 h51 h52).weak (WeakL.refl _) (WeakL.tup (.cons (.rfl _) (.cons fM.agg (WeakL.refl _))))
def pH (b:BR):Bool:=CD b.l 4 2&&qB b.a 3
theorem yJ {b:BR} (h:pH b=true):mU b=true:=by
 rw[pH,Bool.and_eq_true,ko]at h
 rw[mU,Bool.and_eq_true,ko]
 obtain⟨⟨h1,h2⟩,h3⟩:=h
 exact⟨⟨by omega,fun s hs=>by
  obtain⟨a1,a2,a3,a4⟩:=h2 s hs
  exact⟨by omega,by omega,a3,a4⟩⟩,h3⟩
theorem yK {b:BR} (h:pH b=true) (t:Rat):SortC (i9 b.l t):=by
 rw[pH,Bool.and_eq_true,ko]at h
 obtain⟨⟨h1,h2⟩,-⟩:=h
 refine u4 _ ?_
 have:=io (lq t) 2 b.l fun s hs=>by rw[lQ];exact(h2 s hs).1
 rw[i9]
 omega
theorem Bn (b:BR) (hll:AY b.l):Ret Tryz.prog .shared 8 [.agg (eB b)] (.bool (pH b)):=by
 have h1:=tQ b.l hll 4 2 (by decide) (by decide)
 have h2:=jI b.a 3 (by decide)
 rw[pH]
 generalize CD b.l 4 2=x1 at *
 generalize qB b.a 3=x2 at *
 obtain⟨w,a,l⟩:=b
 simp only at *
 cases x1
 ·rw[Bool.false_and]
  refine Ret.of_pwp layOk mixed Go.Proofs.Tryz.func8 rfl (by decide) rfl rfl ?_
  repeat refine aa rfl ?_
  refine aP rfl rfl rfl h1 rfl rfl rfl ?_
  repeat refine aa rfl ?_
  exact bi rfl rfl rfl
 ·rw[Bool.true_and]
  refine Ret.of_pwp layOk mixed Go.Proofs.Tryz.func8 rfl (by decide) rfl rfl ?_
  repeat refine aa rfl ?_
  refine aP rfl rfl rfl h1 rfl rfl rfl ?_
  repeat refine aa rfl ?_
  refine aP rfl rfl rfl h2 rfl rfl rfl ?_
  repeat refine aa rfl ?_
  exact bi rfl rfl rfl
structure SQ.Le (q:SQ):Prop where
 az:q.a.z.le 1000000000
 at':q.a.t.le 1000000000
 rz:q.r.z.le 1000000000
 rt:q.r.t.le 1000000000
 F:∀x∈q.F,x.le 1000000000
 n:q.F.length≤1000000
theorem pd:zA.z.le 1000000000∧zA.t.le 1000000000:=⟨⟨Nat.zero_le _,Nat.zero_le _⟩,⟨Nat.zero_le _,Nat.zero_le _⟩⟩
theorem qy (r:AR) (e:Int) (h:r.z.le 1000000000∧r.t.le 1000000000):SQ.Le ⟨zA,[],r,e⟩:=⟨pd.1,pd.2,h.1,h.2,fun x hx=>(by cases hx),Nat.zero_le _⟩
theorem Em {b:BR} (hg:b.Good) (h0:bq b=0):(dR b).Le∧(∀x∈(cK b).1,x.le 1000000000)∧(cK b).1.length≤1000000:=by
 obtain⟨hb,hs,-⟩:=hg.2 h0
 have h12:=hb.few.1
 have hF:∀z t,HQ z 24000→HQ t 20000→(∀x∈FL b.l z t,x.le 1000000000)∧(FL b.l z t).length≤1000000:=fun z t hz ht=>⟨fun x hx=>by
  have:=DF hb.lim.l hb.few hz ht x hx
  exact⟨Nat.le_trans this.1 (by decide),Nat.le_trans this.2 (by decide)⟩,by rw[FL,List.length_map];omega⟩
 cases EE hg h0 with
 |none r e he hr hv hn k1 k2 =>
  rw[k1,k2]
  have h1:=hv.z.sz
  have h2:=hv.t.sz
  exact⟨qy r e ⟨⟨by omega,by omega⟩,⟨by omega,by omega⟩⟩,fun x hx=>(by cases hx),Nat.zero_le _⟩
 |loose z t hn hbal hz ht k1 k2 =>
  rw[k1,k2]
  exact⟨qy _ _ pd,hF z t hz ht⟩
 |one z t hn hbal hz ht hu k1 k2 =>
  rw[k1,k2]
  have l1:=dp hz.ok
  have l2:=dp ht.ok
  exact⟨⟨⟨by simp only;omega,by simp only;omega⟩,⟨by simp only;omega,by simp only;omega⟩,pd.1,pd.2,(hF z t hz ht).1,(hF z t hz ht).2⟩,hF z t hz ht⟩
theorem lI (q:SQ) (h:q.Le):Ret Tryz.prog .shared 12 [.agg (sW q.a q.F),.agg (sW q.a q.F)] (.bool true):=by
 have h1:=xe q.a h.az h.at'
 have h2:=jG q.F h.n h.F
 clear h
 obtain⟨⟨az,at'⟩,F,r,e⟩:=q
 simp only at *
 refine Ret.of_pwp layOk mixed Go.Proofs.Tryz.func12 rfl (by decide) rfl rfl ?_
 repeat refine aa rfl ?_
 refine aP rfl rfl rfl h1 rfl rfl rfl ?_
 repeat refine aa rfl ?_
 refine aP rfl rfl rfl h2 rfl rfl rfl ?_
 repeat refine aa rfl ?_
 exact bi rfl rfl rfl
set_option maxRecDepth 20000 in
theorem solves_law (b:BR) (hb:ArgB b):Ret Tryz.prog .shared 3 [.agg (eB b)] (.bool true):=by
 have aw:=vz
 have h1:=Bn b hb.len
 have hmg:=fun(h:pH b=true)=>wv hb (yJ h)
 have hst:=fun(h:pH b=true)=>yK h
 generalize pH b=x1 at *
 refine Ret.of_pwp layOk mixed Go.Proofs.Tryz.func3 rfl (by decide) rfl rfl ?_
 repeat refine aa rfl ?_
 refine aP rfl rfl rfl aw rfl rfl rfl ?_
 repeat refine aa rfl ?_
 refine aP rfl rfl rfl h1 rfl rfl rfl ?_
 cases x1
 ·repeat refine aa rfl ?_
  exact bi rfl rfl rfl
 repeat refine aa rfl ?_
 have hg:=hmg rfl
 have sv:=tX b hg fun _=>hst rfl
 have rv:=tA b hg fun _=>hst rfl
 have h20:=wJ b hg.1
 clear hmg h1 aw
 by_cases x7:bq b=0
 ·obtain⟨s2,r2⟩:=wK b hg x7
  obtain⟨l1,l2,l3⟩:=Em hg x7
  rw[x7]at h20
  have c1:=lI _ l1
  have c2:=lH _ l1.rz l1.rt
  have c3:=jG _ l3 l2
  generalize dR b=S at *
  generalize (cK b).1=F at *
  generalize (cK b).2=g at *
  clear l1 l2 l3 hg x7
  obtain⟨Sa,SF,Sr,Se⟩:=S
  simp only[SQ.pv]at *
  refine ak rfl rfl rfl sv rfl rfl ?_
  repeat refine aa rfl ?_
  refine ak rfl rfl rfl rv rfl rfl ?_
  repeat refine aa rfl ?_
  refine aP rfl rfl rfl h20 rfl rfl rfl ?_
  repeat refine aa rfl ?_
  refine ak rfl rfl rfl s2 rfl rfl ?_
  repeat refine aa rfl ?_
  refine ak rfl rfl rfl r2 rfl rfl ?_
  repeat refine aa rfl ?_
  refine aP rfl rfl rfl c1 rfl rfl rfl ?_
  repeat refine aa rfl ?_
  refine aP rfl rfl rfl c2 rfl rfl rfl ?_
  repeat refine aa rfl ?_
  refine dr rfl rfl rfl ?_ ?_<;>intro h
  rotate_left
  ·simp at h
  clear h
  repeat refine aa rfl ?_
  refine aP rfl rfl rfl c3 rfl rfl rfl ?_
  repeat refine aa rfl ?_
  exact bi rfl rfl (by simp)
 ·have l1:(dR b).Le∧dR b=⟨zA,[],zA,bq b⟩∧cK b=([],bq b):=by
   rw[dR,cK,if_neg x7,if_neg x7]
   exact⟨qy _ _ pd,rfl,rfl⟩
  obtain⟨l1,e1,e2⟩:=l1
  have c1:=lI _ l1
  have c2:=lH _ l1.rz l1.rt
  rw[e1]at sv c1 c2
  rw[e2]at rv
  have c1:=c1.weak (.cons (.rfl _) (.cons fN.agg .nil)) (.rfl _)
  have c2:=c2.weak (.cons (.rfl _) (.cons fM.agg .nil)) (.rfl _)
  clear l1 e1 e2 hg
  generalize bq b=e at *
  simp only[SQ.pv]at *
  refine ak rfl rfl rfl sv rfl rfl ?_
  repeat refine aa rfl ?_
  refine ak rfl rfl rfl rv rfl rfl ?_
  repeat refine aa rfl ?_
  refine aP rfl rfl rfl h20 rfl rfl rfl ?_
  repeat refine aa rfl ?_
  refine ab rfl ?_ ?_<;>intro h
  rotate_left
  ·exfalso
   simp at h
   exact x7 h
  clear h
  repeat refine aa rfl ?_
  refine dr rfl rfl rfl ?_ ?_<;>intro h
  rotate_left
  ·simp at h
  clear h
  repeat refine aa rfl ?_
  refine dr rfl rfl rfl ?_ ?_<;>intro h
  rotate_left
  ·simp at h
  clear h
  repeat refine aa rfl ?_
  refine aP rfl rfl rfl c1 rfl rfl rfl ?_
  repeat refine aa rfl ?_
  refine aP rfl rfl rfl c2 rfl rfl rfl ?_
  repeat refine aa rfl ?_
  exact bi rfl rfl rfl
end Go.Pv
