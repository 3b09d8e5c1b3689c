/- Texts of one hand, gathered: FvC, FvD, FsF, FsG, FsH, FsJ, FsK, FsL, FvH, PvFz, FuE, FuF, FuI, FuJ, FuK, FuL, FsI, FtB, FtC, FuA, FvI, FvJ, FvK, FvL, FvM, FvN, FsO, FsP, FmJ, FsQ, FsR, FvO, FtA, FvP, FwA, FwB, FsM, FwC, FwD, Shelg, FwE, FwF, FwG, FwH, FwI, FuM, FuN, FuG, FuH, FuO, FwJ, FwK, FwL. -/
import Derived.Test.YtcnpaheefnefoaaGreatBa5
import Derived.WalkKit
import Derived.Deep.LoopGhost
import Derived.Deep.RegionLaw
import Derived.Lib.Walk
import Derived.Sort.WalkB12
import Derived.Lib.SliceRun
import Derived.Shelf.Spec.SlicesGrow
import Derived.Test.YtcnpaheefnefoaaGreatProg
set_option maxRecDepth 20000
set_option linter.unusedSectionVars false
set_option linter.unusedSimpArgs false
set_option linter.unusedVariables false
set_option linter.unnecessarySimpa false
namespace Go.Pv
theorem ug {α:Type}(g:α->Rat):∀(l:List α),l≠[]->∃x∈l,∀y∈l,g x<=g y
 |[],h=>absurd rfl h
 |[x],_=>⟨x,ak,fun y hy=>by simp at hy;subst hy;exact Rat.le_refl⟩
 |x::z::l,_=>by
  obtain⟨m,hm,h⟩:=ug g (z::l) ak;rcases Rat.le_total (a:=g x) (b:=g m) with c|c
  .refine⟨x,ak,fun y hy=>?_⟩;rcases List.mem_cons.1 hy with rfl|hy
   .exact Rat.le_refl
   .exact Rat.le_trans c (h y hy)
  .refine⟨m,List.mem_cons_of_mem _ hm,fun y hy=>?_⟩;rcases List.mem_cons.1 hy with rfl|hy
   .exact c
   .exact h y hy
theorem Gp {x y:Rat}(h0:0<=x)(h:x<y):x*x<y*y:=by
 have h1:=Rat.mul_le_mul_of_nonneg_left (Rat.le_of_lt h) h0;have h2:=Rat.mul_lt_mul_of_pos_right h (show 0<y by grind);grind
namespace Bd
variable {b:Bd}
theorem DB {p:Nat->Nat}{z t:Rat}(u v:Rat)(hp:b.Inc p z t) :
  (∃s i k,i<b.N/\k<b.n i/\u+v*b.X i≠0/\b.y (z+s*u) (t+s*v) i=b.S i k/\b.Inc p (z+s*u) (t+s*v)) \/
  ((∀i,i<b.N->u+v*b.X i≠0->b.n i=0)/\∀s,b.Inc p (z+s*u) (t+s*v)):=by
 let L:List (Nat × Nat):=((List.range b.N).flatMap fun i=>(List.range (b.n i)).map fun k=>(i,k)).filter fun q=>decide (u+v*b.X q.1≠0);have hL:∀q,q∈L↔q.1<b.N/\q.2<b.n q.1/\u+v*b.X q.1≠0:=by
  intro q;obtain⟨i,k⟩:=q;simp only[L,List.mem_filter,List.mem_flatMap,List.mem_range,List.mem_map,Prod.mk.injEq,decide_eq_true_iff];constructor
  .rintro⟨⟨i',h1,k',h2,rfl,rfl⟩,h3⟩;exact⟨h1,h2,h3⟩
  .rintro⟨h1,h2,h3⟩;exact⟨⟨i,h1,k,h2,rfl,rfl⟩,h3⟩
 by_cases he:L=[]
 .refine .inr ⟨fun i hi hd=>?_,fun s i hi=>?_⟩
  .rcases Nat.eq_zero_or_pos (b.n i) with h|h
   .exact h
   .have:=(hL (i,0)).2 ⟨hi,h,hd⟩;rw[he]at this;cases this
  .have hi0:=hp i hi;rw[show b.y (z+s*u) (t+s*v) i=b.y z t i+s*(u+v*b.X i) from pS ..];by_cases hd:u+v*b.X i=0
   .rw[hd,Rat.mul_zero,Rat.add_zero];exact hi0
   .have h0:b.n i=0:=by
     rcases Nat.eq_zero_or_pos (b.n i) with h|h
     .exact h
     .have:=(hL (i,0)).2 ⟨hi,h,hd⟩;rw[he]at this;cases this
    have:=hi0.1;exact⟨this,fun k hk=>by omega,fun hk=>by omega⟩
 .obtain⟨⟨i0,k0⟩,hm,hmin⟩:=ug (fun q:Nat × Nat=>(b.S q.1 q.2-b.y z t q.1)/(u+v*b.X q.1)*((b.S q.1 q.2-b.y z t q.1)/(u+v*b.X q.1))) L he;obtain⟨h1,h2,h3⟩:=(hL _).1 hm;simp only at h1 h2 h3 hmin;refine .inl ⟨(b.S i0 k0-b.y z t i0)/(u+v*b.X i0),i0,k0,h1,h2,h3,?_,fun i hi=>?_⟩
  .rw[pS,Rat.div_mul_cancel h3];grind
  .have hi0:=hp i hi;rw[pS];generalize (b.S i0 k0-b.y z t i0)/(u+v*b.X i0)=s at *
   by_cases hd:u+v*b.X i=0
   .rw[hd,Rat.mul_zero,Rat.add_zero];exact hi0
   .have key:∀k,k<b.n i->s*(u+v*b.X i)*(s*(u+v*b.X i))<=(b.S i k-b.y z t i)*(b.S i k-b.y z t i):=fun k hk=>by
     have h4:=hmin (i,k) ((hL (i,k)).2 ⟨hi,hk,hd⟩);simp only at h4;have h5:(b.S i k-b.y z t i)=(b.S i k-b.y z t i)/(u+v*b.X i)*(u+v*b.X i):=(Rat.div_mul_cancel hd).symm;rw[h5];generalize (b.S i k-b.y z t i)/(u+v*b.X i)=r at *
     generalize u+v*b.X i=d at *
     have h6:0<=d*d:=by
      rcases Rat.le_total (a:=0) (b:=d) with c|c
      .exact Rat.mul_nonneg c c
      .have:=Rat.mul_nonneg (show 0 <= -d by grind) (show 0 <= -d by grind);grind
     have h7:=Rat.mul_le_mul_of_nonneg_right h4 h6;grind
    generalize s*(u+v*b.X i)=e at *
    refine⟨hi0.1,fun k hk=>?_,fun hk=>?_⟩
    .have g1:=hi0.2.1 k hk;have g2:=key k (by have:=hi0.1;omega);rcases Rat.le_total (a:=b.S i k) (b:=b.y z t i+e) with c|c
     .exact c
     .rcases Rat.le_total (a:=b.y z t i+e) (b:=b.S i k) with c2|c2
      .by_cases hq:b.S i k=b.y z t i+e
       .rw[hq];exact Rat.le_refl
       .have:=Gp (show 0<=b.y z t i-b.S i k by grind) (show b.y z t i-b.S i k < -e by grind);exfalso;grind
      .exact c2
    .have g1:=hi0.2.2 hk;have g2:=key (p i) hk;by_cases hq:b.y z t i+e<=b.S i (p i)
     .exact hq
     .have:=Gp (show 0<=b.S i (p i)-b.y z t i by grind) (show b.S i (p i)-b.y z t i<e by grind);exfalso;grind
structure Ln where
 s:Rat
 t:Rat
 v:Rat
def Ln.on (l:Ln)(z t:Rat):Prop:=l.s*z+l.t*t=l.v
def cross (a c:Ln):Option (Rat × Rat):=if a.s*c.t-a.t*c.s=0 then none else some ((a.v*c.t-a.t*c.v)/(a.s*c.t-a.t*c.s),(a.s*c.v-a.v*c.s)/(a.s*c.t-a.t*c.s))
theorem cross_at {a c:Ln}{z t:Rat}(h1:a.on z t)(h2:c.on z t)(hd:a.s*c.t-a.t*c.s≠0):cross a c=some (z,t):=by
 rw[cross,if_neg hd];rw[Ln.on]at h1 h2;rw[<-h1,<-h2];generalize a.s=p at *
 generalize a.t=q at *
 generalize c.s=p' at *
 generalize c.t=q' at *
 have e1:((p*z+q*t)*q'-q*(p'*z+q'*t))/(p*q'-q*p')=z:=aP;have e2:(p*(p'*z+q'*t)-(p*z+q*t)*p')/(p*q'-q*p')=t:=aP;rw[e1,e2]
def corner (b:Bd)(i k:Nat):Ln:=⟨1,b.X i,b.S i k-b.C i⟩
def flat:Ln:=⟨0,1,0⟩
def force (b:Bd)(p:Nat->Nat):Ln:=⟨b.Kh p,b.Kc p,b.w-b.Fo p⟩
def moment (b:Bd)(p:Nat->Nat):Ln:=⟨b.Kc p,b.Kp p,b.w*b.A-b.Go p⟩
theorem jP {z t:Rat}{i k:Nat}(h:b.y z t i=b.S i k):(b.corner i k).on z t:=by
 rw[Ln.on,corner];rw[y]at h;simp only;grind
theorem o6 (h:b.Ok){p:Nat->Nat}{z t:Rat}(hp:b.Inc p z t)(hb:b.Bal z t):(b.force p).on z t:=by
 have:=F_at h hp;rw[hb.1]at this;rw[Ln.on,force];simp only;grind
theorem An (h:b.Ok){p:Nat->Nat}{z t:Rat}(hp:b.Inc p z t)(hb:b.Bal z t):(b.moment p).on z t:=by
 have:=G_at h hp;rw[hb.2]at this;rw[Ln.on,moment];simp only;grind
theorem yU (h:b.Ok){p:Nat->Nat}{z t z' t':Rat}(hp:b.Inc p z t)(hp':b.Inc p z' t')(hb:b.Bal z t)(h1:b.Kh p*z+b.Kc p*t=b.Kh p*z'+b.Kc p*t')(h2:b.Kc p*z+b.Kp p*t=b.Kc p*z'+b.Kp p*t'):b.Bal z' t':=by
 have e1:=F_at h hp;have e2:=G_at h hp;rw[hb.1]at e1;rw[hb.2]at e2;exact⟨by rw[F_at h hp'];grind,by rw[G_at h hp'];grind⟩
inductive Found (b:Bd):Prop where
 |both (p:Nat->Nat) (a:Rat × Rat) (hp:∀i,i<b.N->p i<=b.n i) (h:cross (b.force p) (b.moment p)=some a) (hb:b.Bal a.1 a.2)
 |corner (p:Nat->Nat) (a:Rat × Rat) (hp:∀i,i<b.N->p i<=b.n i) (h0:cross (b.force p) (b.moment p)=none) (i k:Nat) (hi:i<b.N) (hk:k<b.n i) (h:cross (b.force p) (b.corner i k)=some a) (hb:b.Bal a.1 a.2)
 |flat (p:Nat->Nat) (a:Rat × Rat) (hp:∀i,i<b.N->p i<=b.n i) (h0:cross (b.force p) (b.moment p)=none) (h:cross (b.force p) Bd.flat=some a) (hb:b.Bal a.1 a.2)
 |two (a:Rat × Rat) (i k j l:Nat) (hi:i<b.N) (hk:k<b.n i) (hj:j<b.N) (hl:l<b.n j) (hn:b.X i≠b.X j) (h:(b.corner i k).on a.1 a.2) (h':(b.corner j l).on a.1 a.2) (hb:b.Bal a.1 a.2)
 |one (a:Rat × Rat) (i k:Nat) (hi:i<b.N) (hk:k<b.n i) (h:(b.corner i k).on a.1 a.2) (h':Bd.flat.on a.1 a.2) (hb:b.Bal a.1 a.2)
theorem found (h:b.Ok)(hw:b.w≠0){z t:Rat}(hb:b.Bal z t):Found b:=by
 obtain⟨p,hp⟩:=r8 h z t;have hp:=hp.c;have hle:∀i,i<b.N->p i<=b.n i:=fun i hi=>(hp i hi).1;by_cases hdet:b.Kh p*b.Kp p-b.Kc p*b.Kc p=0
 rotate_left
 .exact .both p (z,t) hle (cross_at (o6 h hp hb) (An h hp hb) hdet) hb
 have hnone:cross (b.force p) (b.moment p)=none:=by rw[cross];exact if_pos hdet
 by_cases hK:b.Kh p=0
 .have hk0:∀i,i<b.N->b.k p i=0:=fun i hi=>by
   have h1:=gJ (fun j hj=>Cs h hp hj) hi;rw[show aj (b.k p) b.N=0 from hK]at h1;have:=Cs h hp hi;grind
  have hc0:b.Kc p=0:=iL fun i hi=>by rw[hk0 i hi];grind
  have hp0:b.Kp p=0:=iL fun i hi=>by rw[hk0 i hi];grind
  have hsame:∀ {z' t'},b.Inc p z' t'->b.Bal z' t':=fun hp'=>yU h hp hp' hb (by rw[hK,hc0];grind) (by rw[hp0,hc0];grind);rcases DB 1 0 hp with⟨s,i,k,hi,hk,-,hy,hp'⟩|⟨hn,-⟩
  .rcases DB (-b.X i) 1 hp' with⟨s2,j,l,hj,hl,hd,hy2,hp2⟩|⟨-,hall⟩
   .have hyi:b.y (z+s*1+s2 * -b.X i) (t+s*0+s2*1) i=b.S i k:=by
     rw[pS,hy];grind
    exact .two (_,_) i k j l hi hk hj hl (fun e=>hd (by rw[e];grind)) (jP hyi) (jP hy2) (hsame hp2)
   .have hp2:=hall (-t);have hyi:b.y (z+s*1 + -t * -b.X i) (t+s*0 + -t*1) i=b.S i k:=by
     have e:b.y (z+s*1 + -t * -b.X i) (t+s*0 + -t*1) i=b.y (z+s*1) (t+s*0) i:=by rw[y,y];grind
     rw[e,hy]
    exact .one (_,_) i k hi hk (jP hyi) (by rw[Ln.on,flat];simp only;grind) (hsame hp2)
  .exfalso;apply hw;rw[<-hb.1];refine iL fun i hi=>?_;have h0:=hn i hi aP;show cC (b.n i) (b.S i) (b.M i) _=0;rw[h0];rfl
 .have hdir:∀ {s:Rat},b.Inc p (z+s * -(b.Kc p/b.Kh p)) (t+s*1)->b.Bal (z+s * -(b.Kc p/b.Kh p)) (t+s*1):=fun hp'=>yU h hp hp' hb (by
    generalize b.Kp p=kp at *
    generalize b.Kc p=kc at *
    generalize b.Kh p=kh at *
    grind) (by
    generalize b.Kp p=kp at *
    generalize b.Kc p=kc at *
    generalize b.Kh p=kh at *
    grind)
  rcases DB (-(b.Kc p/b.Kh p)) 1 hp with⟨s,i,k,hi,hk,hd,hy,hp'⟩|⟨-,hall⟩
  .have hb':=hdir hp';refine .corner p (_,_) hle hnone i k hi hk (cross_at (o6 h hp' hb') (jP hy) ?_) hb';show b.Kh p*b.X i-b.Kc p*1≠0;intro e;apply hd;generalize b.Kc p=kc at *
   generalize b.Kh p=kh at *
   grind
  .have hp':=hall (-t);have hb':=hdir hp';refine .flat p (_,_) hle hnone (cross_at (o6 h hp' hb') (show flat.on _ _ by rw[Ln.on,flat];simp only;grind) ?_) hb';show b.Kh p*1-b.Kc p*0≠0;grind
end Bd
def dL:List Nat->Nat->List Nat
 |[],_=>[]
 |n::ns,k=>k%(n+1)::dL ns (k/(n+1))
def cn:List Nat->Nat
 |[]=>1
 |n::ns=>(n+1)*cn ns
def jd:List Nat->List Nat->Bool × List Nat
 |n::ns,p::ps=>if p<n then(true,(p+1)::ps) else((jd ns ps).1,0::(jd ns ps).2)
 |_,ps=>(false,ps)
theorem uH:∀(ns:List Nat) (k:Nat),(dL ns k).length=ns.length
 |[],_=>rfl
 |n::ns,k=>by rw[dL,List.length_cons,List.length_cons,uH ns]
theorem qN:∀(ns:List Nat),dL ns 0=List.replicate ns.length 0
 |[]=>rfl
 |n::ns=>by rw[dL,Nat.zero_mod,Nat.zero_div,qN ns];rfl
theorem qQ:∀(ns:List Nat),0<cn ns
 |[]=>Nat.one_pos
 |n::ns=>Nat.mul_pos (Nat.succ_pos n) (qQ ns)
theorem qH:∀(ns:List Nat) (k:Nat),k<cn ns->jd ns (dL ns k)=if k+1<cn ns then(true,dL ns (k+1)) else(false,dL ns 0)
 |[],k,h=>by
  rw[cn]at h;rw[if_neg (by rw[cn];omega)];rfl
 |n::ns,k,h=>by
  rw[cn]at h;have hq:k/(n+1)<cn ns:=Nat.div_lt_of_lt_mul h;have hr:k%(n+1)<n+1:=Nat.mod_lt _ (Nat.succ_pos n);have hk:=Nat.div_add_mod k (n+1);rw[dL,jd,cn];by_cases h1:k%(n+1)<n
  .rw[if_pos h1];have e1:(k+1)/(n+1)=k/(n+1):=by
    have:k+1=(k%(n+1)+1)+(n+1)*(k/(n+1)):=J;generalize k/(n+1)=q at *;rw[this,Nat.add_mul_div_left _ _ (Nat.succ_pos n),Nat.div_eq_of_lt J,Nat.zero_add]
   have e2:(k+1)%(n+1)=k%(n+1)+1:=by
    have:k+1=(k%(n+1)+1)+(n+1)*(k/(n+1)):=J;generalize k/(n+1)=q at *;rw[this,Nat.add_mul_mod_self_left,Nat.mod_eq_of_lt J]
   have h2:k+1<(n+1)*cn ns:=by
    rcases Nat.lt_or_ge (k+1) ((n+1)*cn ns) with c|c
    .exact c
    .exfalso;have e3:k+1=(n+1)*cn ns:=J;rw[e3,Nat.mul_mod_right]at e2;omega
   rw[if_pos h2,dL,e1,e2]
  .rw[if_neg h1,qH ns _ hq];have hrn:k%(n+1)=n:=J;have hs:(n+1)*(k/(n+1)+1)=(n+1)*(k/(n+1))+(n+1):=Nat.mul_succ _ _;have e3:k+1=(n+1)*(k/(n+1)+1):=J;have e1:(k+1)/(n+1)=k/(n+1)+1:=by generalize k/(n+1)=q at *;rw[e3,Nat.mul_div_cancel_left _ (Nat.succ_pos n)]
   have e2:(k+1)%(n+1)=0:=by rw[e3,Nat.mul_mod_right]
   by_cases h2:k/(n+1)+1<cn ns
   .have h3:k+1<(n+1)*cn ns:=by rw[e3];exact Nat.mul_lt_mul_of_pos_left h2 (Nat.succ_pos n)
    rw[if_pos h2,if_pos h3,dL,e1,e2]
   .have h3:¬k+1<(n+1)*cn ns:=by
     rw[e3];exact Nat.not_lt.2 (Nat.mul_le_mul_left _ J)
    rw[if_neg h2,if_neg h3,dL,Nat.zero_mod,Nat.zero_div]
theorem uG:∀(ns ps:List Nat),ps.length=ns.length->(∀i,i<ns.length->ps.getD i 0<=ns.getD i 0)->∃k,k<cn ns/\dL ns k=ps
 |[],[],_,_=>⟨0,Nat.one_pos,rfl⟩
 |[],_::_,h,_=>by cases h
 |_::_,[],h,_=>by cases h
 |n::ns,p::ps,hl,h=>by
  obtain⟨k,hk,e⟩:=uG ns ps (by simpa using hl) fun i hi=>by simpa using h (i+1) aT
  have hp:p<=n:=h 0 ak;refine⟨p+(n+1)*k,?_,?_⟩
  .rw[cn];have h1:(n+1)*(k+1)<=(n+1)*cn ns:=Nat.mul_le_mul_left _ hk;rw[Nat.mul_succ]at h1;omega
  .rw[dL,Nat.add_mul_mod_self_left,Nat.mod_eq_of_lt J,Nat.add_mul_div_left _ _ (Nat.succ_pos n),Nat.div_eq_of_lt J,Nat.zero_add,e]
theorem yH:∀(ns:List Nat) (k i:Nat),i<ns.length->(dL ns k).getD i 0<=ns.getD i 0
 |n::ns,k,0,_=>by
  rw[dL,List.getD_cons_zero,List.getD_cons_zero];exact Nat.le_of_lt_succ (Nat.mod_lt k (Nat.succ_pos n))
 |n::ns,k,i+1,h=>by
  rw[dL,List.getD_cons_succ,List.getD_cons_succ];exact yH ns _ i (by simpa using h)
theorem qG:∀(ns ps:List Nat) (i:Nat),ps.length=ns.length->(∀j,j<i->¬ps.getD j 0<ns.getD j 0)->i<ns.length->ps.getD i 0<ns.getD i 0->jd ns ps=(true,List.replicate i 0++(ps.getD i 0+1)::ps.drop (i+1))
 |[],_,_,_,_,h,_=>by cases h
 |n::ns,[],_,h,_,_,_=>by cases h
 |n::ns,p::ps,0,hl,_,_,h=>by
  rw[jd,if_pos (show p<n from h)];rfl
 |n::ns,p::ps,i+1,hl,h0,hi,h=>by
  have h1:¬p<n:=h0 0 J;rw[jd,if_neg h1,qG ns ps i (by simpa using hl) (fun j hj=>h0 (j+1) J) (by simpa using hi) h];rfl
theorem uq:∀(ns ps:List Nat),ps.length=ns.length->(∀j,j<ns.length->¬ps.getD j 0<ns.getD j 0)->jd ns ps=(false,List.replicate ns.length 0)
 |[],[],_,_=>rfl
 |[],_::_,h,_=>by cases h
 |n::ns,[],h,_=>by cases h
 |n::ns,p::ps,hl,h0=>by
  have h1:¬p<n:=h0 0 ak;rw[jd,if_neg h1,uq ns ps (by simpa using hl) (fun j hj=>h0 (j+1) aT)];rfl
set_option maxHeartbeats 2000000
attribute [local irreducible] PWP POps PQuiet PSem aG au am ao
open Go.Proofs
theorem dM (x y:RR){p q:Rat}{n m:Nat}[hx:Vq x p n][hy:Vq y q m](hn:n<=20000000)(hm:m<=20000000):Ret Tryz.prog .shared 77 [.agg (eR x),.agg (eR y)] (.agg (eR (ofQ (p+q)))):=by
 have h:=jT x y hn hm;generalize ofQ (p+q)=X at *
 refine Ret.of_pwp layOk mixed Go.Proofs.Tryz.func77 O Y O O ?_;refine G h ?_;exact bM
theorem cN (x y:RR){p q:Rat}{n m:Nat}[hx:Vq x p n][hy:Vq y q m](hn:n<=20000000)(hm:m<=20000000):Ret Tryz.prog .shared 78 [.agg (eR x),.agg (eR y)] (.agg (eR (ofQ (p*q)))):=by
 have h:=q9 x y hn hm;generalize ofQ (p*q)=X at *
 refine Ret.of_pwp layOk mixed Go.Proofs.Tryz.func78 O Y O O ?_;refine G h ?_;exact bM
theorem jp (x y:RR){p q:Rat}{n m:Nat}[hx:Vq x p n][hy:Vq y q m](hn:n<=10000000)(hm:m<=10000000):Ret Tryz.prog .shared 166 [.agg (eR x),.agg (eR y)] (.agg (eR (ofQ (p-q)))):=by
 have h:=q_ x y hn hm;generalize ofQ (p-q)=X at *
 refine Ret.of_pwp layOk mixed Go.Proofs.Tryz.func166 O Y O O ?_;refine G h ?_;exact bM
theorem BO (x y:RR){p q:Rat}{n m:Nat}[hx:Vq x p n][hy:Vq y q m](hn:n<=20000000)(hm:m<=20000000)(h0:q≠0):Ret Tryz.prog .shared 169 [.agg (eR x),.agg (eR y)] (.agg (eR (ofQ (p/q)))):=by
 have h:=mN x y hn hm h0;generalize ofQ (p/q)=X at *
 refine Ret.of_pwp layOk mixed Go.Proofs.Tryz.func169 O Y O O ?_;refine G h ?_;exact bM
theorem gL:Ret Tryz.prog .shared 27 [I 0] (.agg (eR (ofQ 0))):=by
 have:=bC 0 ⟨Y,Y⟩;rwa [show(((0:Int):Rat))=0 from O]at this
theorem kQ (x:RR){p:Rat}{n:Nat}[hx:Vq x p n](hn:n<=8000000):Ret Tryz.prog .shared 112 [.agg (eR x)] (I (sgn p)):=by
 have h0:=gL;have hc:=dg x (ofQ 0) J Y;rw[Rat.sub_eq_add_neg,Rat.neg_zero,Rat.add_zero]at hc;generalize sgn p=g at *
 generalize ofQ 0=Z at *
 refine Ret.of_pwp layOk mixed Go.Proofs.Tryz.func112 O Y O O ?_;refine bQ 4 [3,4,5,2] ?_;refine G h0 ?_;refine ax hc ?_;exact bX
theorem uR (s:SR)(hs:s.Lim)(a:AR){z t:Rat}{n m:Nat}[ha:Va a z t n m](hn:n<=1000000)(hm:m<=1000000):Ret Tryz.prog .shared 26 [.agg (eS s),.agg (eA a)] (.agg (eR (ofQ (yQ s z t)))):=by
 have hx:Zb s.x:=aL hs.x.1 hs.x.2;have hw:=bC s.x hs.x;have e1:=dM s.c a.z (hx:=hs.c.v) (hy:=ha.z) Y J;have v1:Vq (ofQ (s.c.val+z)) (s.c.val+z) (13+(n+1)+1):=Vq.ofQ (h:=@HQ.add _ _ 13 (n+1) hs.c.v.hq ha.z.hq);have e2:=cN a.t (ofQ (s.x:Rat)) (hx:=ha.t) J Y;have v2:Vq (ofQ (t*(s.x:Rat))) (t*(s.x:Rat)) (m+1+4):=Vq.ofQ (h:=@HQ.mul _ _ (m+1) 4 ha.t.hq HQ.int);have e3:=dM (ofQ (s.c.val+z)) (ofQ (t*(s.x:Rat))) (hx:=v1) (hy:=v2) J J;rw[show s.c.val+z+t*(s.x:Rat)=yQ s z t by rw[yQ];grind]at e3;generalize ofQ (yQ s z t)=X at *
 generalize ofQ (s.c.val+z)=X1 at *
 generalize ofQ (t*(s.x:Rat))=X2 at *
 generalize ofQ (s.x:Rat)=X3 at *
 obtain⟨x,c,k⟩:=s;obtain⟨az,at'⟩:=a;simp only at *
 refine Ret.of_pwp layOk mixed Go.Proofs.Tryz.func26 O Y O O ?_;refine bQ 12 [5,6,7,8,9,10,11,12,13,14,15,16] ?_;refine G e1 ?_;refine G hw ?_;refine G e2 ?_;refine G e3 ?_;exact bM
theorem Fv {c:CR}(hc:c.Lim)(k:Nat):HQ (c.s k) 4:=by
 have h:=lR hc k;have z1:Zb (c.S.getD k 0):=aL h.1 h.2;exact HQ.int
theorem Hf {c:CR}(hc:c.Lim){p:Rat}{n N:Nat}(hp:HQ p n)(k:Nat):HQ (fg c.s N p k) (n+4):=by
 rw[fg];split
 .rw[gh];split
  .exact(Fv hc (k+1)).mono J
  .exact hp.mono J
 .exact hp.mono J
theorem HL {c:CR}(hc:c.Lim){p:Rat}{n N:Nat}(hp:HQ p n)(k:Nat):HQ (fg c.s N p k-c.s k) (n+9):=(@HQ.sub _ _ _ _ (Hf hc hp k) (Fv hc k)).mono J
theorem Ip {c:CR}(hc:c.Lim)(k:Nat):HQ (c.m k) 13:=by
 rw[CR.m];by_cases hk:k<c.M.length
 .exact((hc.m _ (a_ (aN (d:=RR.zero) hk))).v).hq
 .rw[List.getD_eq_getElem?_getD,List.getElem?_eq_none J];show HQ RR.zero.val 13;rw[RR.zero_val];exact HQ.zero.mono Y
theorem G2 {x:Rat}{n:Nat}(h:HQ x n):HQ (dq x) (n+4):=by
 rw[dq];split
 .exact h.mono J
 .exact HQ.zero.mono J
theorem o8 {c:CR}(hc:c.Lim){p:Rat}{n N:Nat}(hp:HQ p n)(k:Nat):HQ (cm c.s c.m N p k) (n+30):=(@HQ.mul _ _ 13 (n+9+4) (Ip hc k) (G2 (HL hc hp k))).mono J
noncomputable def D_ (c:CR)(y:RR)(p:Rat)(N i:Nat):RR:=@ite _ (i+1<N/\c.s (i+1)<p) (Classical.propDecidable _) (ofQ (c.s (i+1))) y
theorem Ie {c:CR}(hc:c.Lim){y:RR}{p:Rat}{N i n:Nat}[hy:Vq y p n]:Vq (D_ c y p N i) (fg c.s N p i) (n+8):=by
 rw[D_,fg];by_cases h1:i+1<N
 .rw[if_pos h1,gh];by_cases h2:c.s (i+1)<p
  .rw[if_pos ⟨h1,h2⟩,if_pos h2];exact l6 (Vq.ofQ (h:=Fv hc (i+1))) J
  .rw[if_neg (fun h=>h2 h.2),if_neg h2];exact l6 hy J
 .rw[if_neg (fun h=>h1 h.1),if_neg h1];exact l6 hy J
set_option maxRecDepth 20000 in
theorem kN (c:CR)(hc:c.Lim)(h0:bJ c=0)(y:RR){p:Rat}{n:Nat}[hy:Vq y p n](hn:n<=100000):Ret Tryz.prog .shared 115 [.agg (eC c),.agg (eR y)] (.agg (eR (ofQ (cC c.S.length c.s c.m p)))):=by
 obtain⟨h40,hSM,-,hasc⟩:=ct h0;have w0:=gL;have hph:=hy.hq;rw[cC,fy fun i hi=>hasc i hi];have hSm:(c.S.map eN).length=c.S.length:=ak;have hB:∀i,i<=40->i*(n+1+30+1)+4<=5000000:=fun i hi=>by have:=Nat.mul_le_mul hi (Nat.le_refl (n+1+30+1));omega
 have vs:∀i,Vq (ofQ (aj (cm c.s c.m c.S.length p) i)) (aj (cm c.s c.m c.S.length p) i) (i*(n+1+30+1)+4):=fun i=>Vq.ofQ (h:=be i fun k _=>o8 hc hph k);generalize hN:c.S.length=N at *
 refine Ret.of_pwp layOk mixed Go.Proofs.Tryz.func115 O Y O O ?_;refine G w0 ?_;refine H ?_;refine ar (fun i:Nat=>i<=N) (fun i=>[(2,.ptr 2 1 0 0),(3,.ptr 3 1 0 0),(4,.ptr 4 1 0 0),(5,.ptr 5 1 0 0),(6,I (i:Nat))])
  (fun i=>[(2,1,⟨69,2,[eC c],2⟩),(3,1,⟨26,4,[eR y],2⟩),(4,1,⟨26,4,[zN],2⟩),(5,1,⟨26,4,[eR (ofQ (aj (cm c.s c.m N p) i))],2⟩)]) (fun i=>N-i) 0 (Nat.zero_le _) ⟨O,O,O,O,O,O,O,O,O,trivial⟩ ?_
 intro i s hi;refine D ?_ ?_<;>intro h
 .have hlt:i<N:=by have:=ay h;rw[hSm]at this;omega
  clear h;have hx:=aN (l:=c.S) (i:=i) (d:=0) J;have hmx:=aN (l:=c.M) (i:=i) (d:=RR.zero) J;have hxi:=hc.s _ (a_ hx);have hmv:=(hc.m _ (a_ hmx)).v;have hw:=bC _ hxi;have hnx:IntKind.i64.wrap (((i:Nat):Int)+1)=((i+1:Nat):Int):=by rw[wrap_i64 J J];omega
  (repeat ((fail_if_success (with_reducible refine a8 5 ?_));refine cP O ?_))
  iterate 6 refine fH O ?_
  refine C8 [(2,.ptr 2 1 0 0),(3,.ptr 3 1 0 0),(4,.ptr 4 1 0 0),(5,.ptr 5 1 0 0),(6,I (i:Nat)),(7,.ptr 7 ((s.own 7).1+1) 0 0)]
   [(2,1,⟨69,2,[eC c],2⟩),(3,1,⟨26,4,[eR y],2⟩),(4,1,⟨26,4,[zN],2⟩),(5,1,⟨26,4,[eR (ofQ (aj (cm c.s c.m N p) i))],2⟩),(7,(s.own 7).1+1,⟨26,4,[eR (D_ c y p N i)],2⟩)] ?_ (fun s3=>?_)
  .by_cases h1:i+1<N
   .have hx1:=aN (l:=c.S) (i:=i+1) (d:=0) J;have hw1:=bC _ (hc.s _ (a_ hx1));have zb1:Zb (c.S.getD (i+1) 0):=aL (hc.s _ (a_ hx1)).1 (hc.s _ (a_ hx1)).2;have hc1:=dg y (ofQ ((c.S.getD (i+1) 0:Int):Rat)) J Y;have hg:=gG (p-((c.S.getD (i+1) 0:Int):Rat));have htp:D_ c y p N i=if 0<sgn (p-((c.S.getD (i+1) 0:Int):Rat)) then ofQ ((c.S.getD (i+1) 0:Int):Rat) else y:=by
     rw[D_];by_cases hlt1:c.s (i+1)<p
     .rw[if_pos ⟨h1,hlt1⟩,if_pos (hg.2 (by have:((c.S.getD (i+1) 0:Int):Rat)<p:=hlt1;grind))];rfl
     .rw[if_neg (fun h=>hlt1 h.2),if_neg (fun h=>hlt1 (by have:=hg.1 h;show((c.S.getD (i+1) 0:Int):Rat)<p;grind))]
    rw[htp];clear hg htp;generalize sgn (p-((c.S.getD (i+1) 0:Int):Rat))=sg at *
    generalize hW1:ofQ ((c.S.getD (i+1) 0:Int):Rat)=W1 at *
    generalize c.S.getD (i+1) 0=x1 at *
    refine bQ 18 [18,19,20,21,22,23,24,25,26,27,28,29,30,31,32,33,34,35] ?_;refine H ?_;rw[hnx];refine bP ?_ ?_<;>intro h
    .clear h;refine H ?_;rw[hnx];refine td O O O O O O O hx1 O ?_;refine G hw1 ?_;refine ax hc1 ?_;refine D ?_ ?_<;>intro h
     .rw[if_pos (ay h)];clear h;refine H ?_;rw[hnx];refine td O O O O O O O hx1 O ?_;refine G hw1 ?_;refine H ?_;exact⟨O,O,O,O,O,O,O,O,O,O,O,trivial⟩
     .rw[if_neg (aH h)];clear h;refine H ?_;exact⟨O,O,O,O,O,O,O,O,O,O,O,trivial⟩
    .exfalso;have:=aH h;rw[hSm]at this;omega
   .have htp:D_ c y p N i=y:=by rw[D_,if_neg (fun h=>h1 h.1)]
    rw[htp];clear htp;refine bQ 18 [18,19,20,21,22,23,24,25,26,27,28,29,30,31,32,33,34,35] ?_;refine H ?_;rw[hnx];refine bP ?_ ?_<;>intro h
    .exfalso;have:=ay h;rw[hSm]at this;omega
    .clear h;refine H ?_;exact⟨O,O,O,O,O,O,O,O,O,O,O,trivial⟩
  have vT:Vq (D_ c y p N i) (fg c.s N p i) (n+8):=Ie hc;have zbi:Zb (c.S.getD i 0):=aL hxi.1 hxi.2;have e1:=jp (D_ c y p N i) (ofQ ((c.S.getD i 0:Int):Rat)) (hx:=vT) J Y;rw[show fg c.s N p i-((c.S.getD i 0:Int):Rat)=fg c.s N p i-c.s i from O]at e1;have vD:Vq (ofQ (fg c.s N p i-c.s i)) (fg c.s N p i-c.s i) (n+1+9):=Vq.ofQ (h:=HL hc hph i);have e2:=kQ (ofQ (fg c.s N p i-c.s i)) (hx:=vD) J;have e3:=cN (c.M.getD i RR.zero) (ofQ (fg c.s N p i-c.s i)) (hx:=hmv) (hy:=vD) Y J;have hg:=gG (fg c.s N p i-c.s i);have hP:cm c.s c.m N p i=(c.M.getD i RR.zero).val*dq (fg c.s N p i-c.s i):=O;have hS:aj (cm c.s c.m N p) (i+1)=aj (cm c.s c.m N p) i+cm c.s c.m N p i:=O;by_cases hd:0<fg c.s N p i-c.s i
  .rw[dq,if_pos hd]at hP;rw[<-hP]at e3;have vP:Vq (ofQ (cm c.s c.m N p i)) (cm c.s c.m N p i) (n+1+30):=Vq.ofQ (h:=o8 hc hph i);have e4:=dM (ofQ (aj (cm c.s c.m N p) i)) (ofQ (cm c.s c.m N p i)) (hx:=vs i) (hy:=vP) (by have:=hB i J;omega) J;rw[<-hS]at e4;have hgt:=hg.2 hd;generalize hSN:ofQ (aj (cm c.s c.m N p) (i+1))=S1 at *
   generalize ofQ (aj (cm c.s c.m N p) i)=S0 at *
   generalize ofQ (cm c.s c.m N p i)=P0 at *
   generalize sgn (fg c.s N p i-c.s i)=sg at *
   generalize ofQ (fg c.s N p i-c.s i)=D0 at *
   generalize D_ c y p N i=T0 at *
   generalize ofQ ((c.S.getD i 0:Int):Rat)=W0 at *
   generalize c.S.getD i 0=x0 at *
   generalize c.M.getD i RR.zero=m0 at *
   refine bY ?_;refine aF (f_ 8) ?_;refine bj 8 1 [43,44,45,46,47,48,49,50,8] [] aX O ?_;refine aJ hx ?_;refine G hw ?_;refine G e1 ?_;refine ax e2 ?_;refine D ?_ ?_<;>intro h
   .clear h;refine bQ 9 [54,55,56,57,58,59,60,61,62] ?_;refine aJ hmx ?_;refine G e3 ?_;refine G e4 ?_;refine H ?_;refine⟨i+1,hlt,J,O,O,O,O,congrArg I hnx,O,O,O,?_,trivial⟩;show(_:Nat × Option Cont)=(1,some (Cont.mk 26 4 [eR (ofQ (aj (cm c.s c.m N p) (i+1)))] 2));rw[hSN];rfl
   .exact absurd hgt (aH h)
  .rw[dq,if_neg hd,Rat.mul_zero]at hP;rw[hP,Rat.add_zero]at hS;have hgt:¬0<sgn (fg c.s N p i-c.s i):=fun h=>hd (hg.1 h);rw[<-hS];generalize hSN:ofQ (aj (cm c.s c.m N p) (i+1))=S0 at *
   generalize sgn (fg c.s N p i-c.s i)=sg at *
   generalize ofQ (fg c.s N p i-c.s i)=D0 at *
   generalize D_ c y p N i=T0 at *
   generalize ofQ ((c.S.getD i 0:Int):Rat)=W0 at *
   generalize c.S.getD i 0=x0 at *
   refine bY ?_;refine aF (f_ 8) ?_;refine bj 8 1 [43,44,45,46,47,48,49,50,8] [] aX O ?_;refine aJ hx ?_;refine G hw ?_;refine G e1 ?_;refine ax e2 ?_;refine D ?_ ?_<;>intro h
   .exact absurd (ay h) hgt
   .clear h;refine H ?_;refine⟨i+1,hlt,J,O,O,O,O,congrArg I hnx,O,O,O,?_,trivial⟩;show(_:Nat × Option Cont)=(1,some (Cont.mk 26 4 [eR (ofQ (aj (cm c.s c.m N p) (i+1)))] 2));rw[hSN];rfl
 .have hie:i=N:=by have:=aH h;rw[hSm]at this;omega
  clear h;subst hie;exact bM
set_option maxRecDepth 20000 in
theorem xp (c:CR)(hc:c.Lim)(h0:bJ c=0)(y:RR){p:Rat}{n:Nat}[hy:Vq y p n](hn:n<=1000000):Ret Tryz.prog .shared 113 [.agg (eC c),.agg (eR y)] (.agg (eR (ofQ (aZ c.m (jh c.s p c.S.length))))):=by
 obtain⟨h40,hSM,-,hasc⟩:=ct h0;have w0:=gL;have hSm:(c.S.map eN).length=c.S.length:=ak;generalize hN:c.S.length=N at *
 refine Ret.of_pwp layOk mixed Go.Proofs.Tryz.func113 O Y O O ?_;refine G w0 ?_;refine H ?_;refine ar (fun i:Nat=>i<=N) (fun i=>[(2,.ptr 2 1 0 0),(3,.ptr 3 1 0 0),(4,.ptr 4 1 0 0),(5,.ptr 5 1 0 0),(6,I (i:Nat))])
  (fun i=>[(2,1,⟨69,2,[eC c],2⟩),(3,1,⟨26,4,[eR y],2⟩),(4,1,⟨26,4,[zN],2⟩),(5,1,⟨26,4,[eR (ofQ (aZ c.m (jh c.s p i)))],2⟩)]) (fun i=>N-i) 0 (Nat.zero_le _) ⟨O,O,O,O,O,O,O,O,O,trivial⟩ ?_
 intro i s hi;refine D ?_ ?_<;>intro h
 .have hlt:i<N:=by have:=ay h;rw[hSm]at this;omega
  clear h;have hx:=aN (l:=c.S) (i:=i) (d:=0) J;have hmx:=aN (l:=c.M) (i:=i) (d:=RR.zero) J;have hxi:=hc.s _ (a_ hx);have hmv:=(hc.m _ (a_ hmx)).v;have hw:=bC _ hxi;have zbi:Zb (c.S.getD i 0):=aL hxi.1 hxi.2;have hc1:=dg y (ofQ ((c.S.getD i 0:Int):Rat)) J Y;have hg:=xB (p-((c.S.getD i 0:Int):Rat));have e4:=dM (c.M.getD i RR.zero) (ofQ 0) (hx:=hmv) Y Y;rw[Rat.add_zero]at e4;have hnx:IntKind.i64.wrap (((i:Nat):Int)+1)=((i+1:Nat):Int):=by rw[wrap_i64 J J];omega
  have hpr:ofQ (aZ c.m (jh c.s p (i+1)))=if 0<=sgn (p-((c.S.getD i 0:Int):Rat)) then ofQ (c.M.getD i RR.zero).val else ofQ (aZ c.m (jh c.s p i)):=by
   rw[jh];by_cases hle:c.s i<=p
   .rw[if_pos hle,if_pos (hg.2 (by have:((c.S.getD i 0:Int):Rat)<=p:=hle;grind)),aZ];rfl
   .rw[if_neg hle,if_neg (fun h=>hle (by have:=hg.1 h;show((c.S.getD i 0:Int):Rat)<=p;grind))]
  generalize hSN:ofQ (aZ c.m (jh c.s p (i+1)))=S1 at *
  generalize ofQ (aZ c.m (jh c.s p i))=S0 at *
  generalize ofQ (c.M.getD i RR.zero).val=M1 at *
  generalize sgn (p-((c.S.getD i 0:Int):Rat))=sg at *
  generalize ofQ ((c.S.getD i 0:Int):Rat)=W0 at *
  generalize c.S.getD i 0=x0 at *
  generalize c.M.getD i RR.zero=m0 at *
  refine bQ 9 [15,16,17,18,19,20,21,22,23] ?_;refine aJ hx ?_;refine G hw ?_;refine ax hc1 ?_;refine D ?_ ?_<;>intro h
  .have h1:=ay h;clear h;rw[if_pos h1]at hpr;refine bQ 7 [24,25,26,27,28,29,30] ?_;refine aJ hmx ?_;refine G w0 ?_;refine G e4 ?_;refine H ?_;refine⟨i+1,hlt,J,O,O,O,O,congrArg I hnx,O,O,O,?_,trivial⟩;show(_:Nat × Option Cont)=(1,some (Cont.mk 26 4 [eR (ofQ (aZ c.m (jh c.s p (i+1))))] 2));rw[hSN,hpr];rfl
  .have h1:=aH h;clear h;rw[if_neg h1]at hpr;refine H ?_;refine⟨i+1,hlt,J,O,O,O,O,congrArg I hnx,O,O,O,?_,trivial⟩;show(_:Nat × Option Cont)=(1,some (Cont.mk 26 4 [eR (ofQ (aZ c.m (jh c.s p (i+1))))] 2));rw[hSN,hpr];rfl
 .have hie:i=N:=by have:=aH h;rw[hSm]at this;omega
  clear h;subst hie;exact bM
def iy (c:CR):Rat:=if c.S.length=0 then 0 else cC c.S.length c.s c.m (c.s (c.S.length-1))
theorem CA {c:CR}(h0:bJ c=0)(hl:aZ c.m c.S.length=0):iy c=mj c.S.length c.s c.m:=by
 rw[iy];split
 .rename_i h;rw[h,mj,iz,aj];grind
 .rename_i h;refine l5 (qn h0) ⟨aS,fun k hk=>?_,fun hlt=>by omega⟩ hl;have:c.S.length-1=k:=J;rw[this];exact Rat.le_refl
set_option maxRecDepth 20000 in
theorem AD (c:CR)(hc:c.Lim)(h0:bJ c=0):Ret Tryz.prog .shared 165 [.agg (eC c)] (.tup [.agg (eR (ofQ (iy c))),.bool (decide (aZ c.m c.S.length=0))]):=by
 obtain⟨h40,hSM,-,hasc⟩:=ct h0;have w0:=gL;have hSm:(c.S.map eN).length=c.S.length:=ak;by_cases hz:c.S.length=0
 .rw[iy,if_pos hz,hz,aZ,decide_eq_true O];generalize ofQ 0=Z at *
  refine Ret.of_pwp layOk mixed Go.Proofs.Tryz.func165 O Y O O ?_;refine D ?_ ?_<;>intro h
  .clear h;refine G w0 ?_;exact bM
  .exfalso;have:=aH h;omega
 .rw[iy,if_neg hz];obtain⟨j,hj⟩:∃j,c.S.length=j+1:=⟨c.S.length-1,J⟩;have hx:=aN (l:=c.S) (i:=j) (d:=0) J;have hmx:=aN (l:=c.M) (i:=j) (d:=RR.zero) J;have hxi:=hc.s _ (a_ hx);have hmv:=(hc.m _ (a_ hmx)).v;have hw:=bC _ hxi;have zbi:Zb (c.S.getD j 0):=aL hxi.1 hxi.2;have hf:=kN c hc h0 (ofQ ((c.S.getD j 0:Int):Rat)) Y;have hs:=kQ (c.M.getD j RR.zero) (hx:=hmv) Y;have hw1:IntKind.i64.wrap ((((c.S.map eN).length:Nat):Int)-1)=(j:Nat):=by rw[hSm,hj,wrap_i64 J J];omega
  have e0:=il (c.M.getD j RR.zero).val;have e1:decide (aZ c.m c.S.length=0)=decide (sgn (c.M.getD j RR.zero).val=0):=by rw[decide_eq_decide,e0,hj,aZ];rfl
  rw[e1,show c.s (c.S.length-1)=((c.S.getD j 0:Int):Rat) by rw[hj];rfl];clear e0 e1;generalize ofQ (cC c.S.length c.s c.m ((c.S.getD j 0:Int):Rat))=V at *
  generalize sgn (c.M.getD j RR.zero).val=sg at *
  generalize ofQ ((c.S.getD j 0:Int):Rat)=W0 at *
  generalize c.S.getD j 0=x0 at *
  generalize c.M.getD j RR.zero=m0 at *
  refine Ret.of_pwp layOk mixed Go.Proofs.Tryz.func165 O Y O O ?_;refine D ?_ ?_<;>intro h
  .exfalso;have:=ay h;omega
  clear h;refine H ?_;refine bI [2] [17] aX ?_;refine H ?_;rw[hw1];refine td O O O O O O O hx O ?_;refine G hw ?_;refine G hf ?_;refine H ?_;rw[hw1];refine td O O O O O O O hmx O ?_;refine ax hs ?_;exact bM
set_option maxRecDepth 20000 in
theorem nu (l:List SR)(hl:fJ l)(hck:bT l=0)(h12:l.length<=1000)(a:AR){z t:Rat}{n m:Nat}[ha:Va a z t n m](hn:n+m<=90000):Ret Tryz.prog .shared 52 [.sl (l.map eS),.agg (eA a)] (.sl ((FL l z t).map eR)):=by
 have hml:(l.map eS).length=l.length:=ak;have hrows:∀(k:Nat) x,l[k]? = some x->(FL (l.take (k+1)) z t).map eR=(FL (l.take k) z t).map eR++[eR (ofQ (fQ x z t))]:=fun k x hx=>by rw[FL,FL,cM hx,List.map_append,List.map_append];rfl
 have him:=fun x hx=>uR x (hl.1 x hx) a (z:=z) (t:=t) J J;have hfo:∀x,x∈l->Ret Tryz.prog .shared 115 [.agg (eC x.k),.agg (eR (ofQ (yQ x z t)))] (.agg (eR (ofQ (fQ x z t)))):=fun x hx=>by
  have v1:Vq (ofQ (yQ x z t)) (yQ x z t) (13+(n+1+(m+1+4)+1)+1):=Vq.ofQ (h:=rx (hl.1 x hx) ha.z.hq ha.t.hq);exact kN x.k (hl.1 x hx).k (b5 hck x hx) (ofQ (yQ x z t)) (hy:=v1) J
 obtain⟨az,at'⟩:=a;refine Ret.of_pwp layOk mixed Go.Proofs.Tryz.func52 O Y O O ?_
 (repeat ((fail_if_success (with_reducible refine a8 1 ?_));refine cP O ?_))
 ((repeat (first|refine aW ?_ | refine cw ?_ | refine bZ ?_ | refine bY ?_));refine bk ?_)
 (first|refine aB (gw 26 4 1 O O ?_)|refine aB (gv 26 4 1 O O ?_))
 refine H ?_;refine ar (fun k=>k<=l.length) (fun k=>[(0,.sl (l.map eS)),(3,.ptr 3 1 0 0),(5,.als 5 (k+1) 0 ((FL (l.take k) z t).map eR).length),(6,I (k:Nat))]) (fun k=>[(3,1,⟨33,8,[eA ⟨az,at'⟩],2⟩),(5,k+1,⟨26,4,(FL (l.take k) z t).map eR,1⟩)]) (fun k=>l.length-k) 0 (Nat.zero_le _) ⟨O,O,O,O,O,O,trivial⟩ ?_;intro k s hk;refine D ?_ ?_<;>intro h
 .have hlt:k<l.length:=by have:=ay h;omega
  clear h;obtain⟨x,hx⟩:=aO hlt;have e:=him x (a_ hx);have e2:=hfo x (a_ hx);have hw:=ej k;have hil:(FL (l.take k) z t).length<=1000:=by rw[FL,List.length_map,List.length_take];omega
  have hr:=hrows k x hx;generalize ofQ (yQ x z t)=Y0 at *
  generalize ofQ (fQ x z t)=F at *
  generalize FL (l.take k) z t=A at *
  obtain⟨xx,xc,xk⟩:=x;simp only at *
  refine H ?_;refine bI [26,5] [13,14,15] aX ?_;refine aJ hx ?_;refine aJ hx ?_;refine G e ?_;refine G e2 ?_;refine H ?_;refine ry O O O (bb 1 O O O O O O O O O O O aK O ⟨iX O,?_⟩);refine H ?_;refine ry O O O (bE 1 O O O O O O O O O O O aK (by intro row hr;first|(simp at hr;subst hr;rfl)|(simp at hr;obtain⟨_,_,rfl⟩:=hr;rfl)|simp at hr) O O aT aT ⟨iX O,?_⟩);refine H ?_;refine⟨k+1,hlt,J,O,O,?_,congrArg I hw,O,?_,trivial⟩
  .rw[hr];rfl
  .rw[hr];rfl
 .have hge:k=l.length:=by have:=aH h;omega
  subst hge;clear h;rw[List.take_length];refine H ?_;exact ia O O O ⟨O,O,O⟩ O
set_option maxRecDepth 20000 in
theorem Dq (l:List SR)(hl:fJ l)(h12:l.length<=12)(Fl:List RR)(f:Nat->Rat){N:Nat}(hf:∀i,i<l.length->Fl[i]? = some (ofQ (f i)))(hH:∀i,i<l.length->HQ (f i) N)(hN:N<=800500) :
  Ret Tryz.prog .shared 205 [.sl (l.map eS),.sl (Fl.map eR)] (.agg (eR (ofQ (aj f l.length))++eR (ofQ (aj (fun i=>f i*xI l i) l.length)))):=by
 have w0:=gL;have hml:(l.map eS).length=l.length:=ak;have hGH:∀i,i<l.length->HQ (f i*xI l i) (N+4):=fun i hi=>by
  have hx:=(hl.1 _ (aM hi)).x;have hx:Zb (l.getD i dS).x:=aL hx.1 hx.2;exact @HQ.mul _ _ _ 4 (hH i hi) HQ.int
 have hB:∀i,i<=l.length->i*(N+4+1)+4<=12000000:=fun i hi=>by
  have:=Nat.mul_le_mul (show i<=12 by omega) (show N+4+1<=800505 by omega);omega
 generalize hg:(fun i=>f i*xI l i)=g at *
 refine Ret.of_pwp layOk mixed Go.Proofs.Tryz.func205 O Y O O ?_;refine G w0 ?_;refine G w0 ?_;refine H ?_;refine ar (fun i:Nat=>i<=l.length) (fun i=>[(0,.sl (l.map eS)),(1,.sl (Fl.map eR)),(4,.ptr 4 1 0 0),(5,.ptr 5 1 0 0),(6,I (i:Nat))])
  (fun i=>[(4,1,⟨185,8,[zN++zN],2⟩),(5,1,⟨185,8,[eR (ofQ (aj f i))++eR (ofQ (aj g i))],2⟩)]) (fun i=>l.length-i) 0 (Nat.zero_le _) ⟨O,O,O,O,O,O,O,trivial⟩ ?_
 intro i s hi;refine D ?_ ?_<;>intro h
 .have hlt:i<l.length:=by have:=ay h;omega
  clear h;have hx:=aN (d:=dS) hlt;have hFi:=hf i hlt;have hxx:=(hl.1 _ (aM hlt)).x;have hzb:Zb (l.getD i dS).x:=aL hxx.1 hxx.2;have hw:=ej i;have hBi:=hB i hi;have hgi:f i*((l.getD i dS).x:Rat)=g i:=by rw[<-hg];rfl
  have v0:Vq (ofQ (f i)) (f i) N:=Vq.ofQ (h:=hH i hlt);have vg:Vq (ofQ (g i)) (g i) (N+4):=Vq.ofQ (h:=by rw[<-hg];exact hGH i hlt);have v1:Vq (ofQ (aj f i)) (aj f i) (i*(N+1)+4):=Vq.ofQ (h:=be i fun k hk=>hH k J);have v2:Vq (ofQ (aj g i)) (aj g i) (i*(N+4+1)+4):=Vq.ofQ (h:=be i fun k hk=>by rw[<-hg];exact hGH k J);have h1:=dM (ofQ (aj f i)) (ofQ (f i)) (hx:=v1) (hy:=v0) (by have:=Nat.mul_le_mul (Nat.le_refl i) (show N+1<=N+4+1 by omega);omega) J;have h2:=bC (l.getD i dS).x hxx;have h3:=cN (ofQ (f i)) (ofQ ((l.getD i dS).x:Rat)) (hx:=v0) J Y;rw[hgi]at h3;have h4:=dM (ofQ (aj g i)) (ofQ (g i)) (hx:=v2) (hy:=vg) J J;rw[show aj f i+f i=aj f (i+1) from O]at h1;rw[show aj g i+g i=aj g (i+1) from O]at h4;generalize hF1:ofQ (aj f (i+1))=F1 at *
  generalize hG1:ofQ (aj g (i+1))=G1 at *
  generalize ofQ (aj f i)=F0 at *
  generalize ofQ (aj g i)=G0 at *
  generalize ofQ (f i)=f0 at *
  generalize ofQ (g i)=g0 at *
  refine bQ 8 [16,17,18,19,20,21,22,23] ?_;refine aJ hFi ?_;refine G h1 ?_;refine bQ 15 [24,25,26,27,28,29,30,31,32,33,34,35,36,37,38] ?_;refine aJ hFi ?_;refine aJ hx ?_;refine G h2 ?_;refine G h3 ?_;refine G h4 ?_;refine H ?_;refine⟨i+1,hlt,J,O,O,O,O,congrArg I hw,O,?_,trivial⟩;show(_:Nat × Option Cont)=(1,some (Cont.mk 185 8 [eR (ofQ (aj f (i+1)))++eR (ofQ (aj g (i+1)))] 2));rw[hF1,hG1];rfl
 .have hie:i=l.length:=by have:=aH h;omega
  clear h;subst hie;exact bM
theorem te {l:List SR}{z t:Rat}{i:Nat}(hi:i<l.length):(FL l z t)[i]? = some (ofQ (fI l z t i)):=by
 rw[FL,List.getElem?_map,aN (d:=dS) hi];rfl
theorem HW {l:List SR}(hl:fJ l)(hf:nC l){z t:Rat}{n m:Nat}(hz:HQ z n)(ht:HQ t m){i:Nat}(hi:i<l.length):HQ (fI l z t i) (8*(n+m+60)+4):=tN (hl.1 _ (aM hi)) (hf.2 _ (aM hi)) hz ht
theorem xt (l:List SR)(hl:fJ l)(hc:bT l=0)(hf:nC l)(a:AR){z t:Rat}{n m:Nat}[ha:Va a z t n m](hn:n+m<=90000) :
  Ret Tryz.prog .shared 168 [.sl (l.map eS),.agg (eA a)] (.agg (eR (ofQ (aj (fI l z t) l.length))++eR (ofQ (aj (gI l z t) l.length)))):=by
 have h12:=hf.1;have h1:=nu l hl hc J a (z:=z) (t:=t) hn;have h2:=Dq l hl hf.1 (FL l z t) (fI l z t) (fun i hi=>te hi) (fun i hi=>HW hl hf ha.z.hq ha.t.hq hi) J;rw[show(fun i=>fI l z t i*xI l i)=gI l z t from O]at h2;generalize ofQ (aj (fI l z t) l.length)=X1 at *
 generalize ofQ (aj (gI l z t) l.length)=X2 at *
 generalize FL l z t=L at *
 obtain⟨az,at'⟩:=a;refine Ret.of_pwp layOk mixed Go.Proofs.Tryz.func168 O Y O O ?_;refine G h1 ?_;refine G h2 ?_;exact bM
theorem Dg (b:BR)(hb:b.Ok)(a:AR){z t:Rat}{n m:Nat}[ha:Va a z t n m](hn:n+m<=60000):Ret Tryz.prog .shared 110 [.agg (eB b),.agg (eA a)] (.bool (decide ((bd b).Bal z t))):=by
 have h1:=xt b.l hb.lim.l hb.chkL hb.few a (z:=z) (t:=t) J;have h2:=bC b.w hb.lim.w;have hw:Zb b.w:=aL hb.lim.w.1 hb.lim.w.2;have v0:Vq (ofQ (aj (fI b.l z t) b.l.length)) (aj (fI b.l z t) b.l.length) (96*(n+1+(m+1)+60)+200):=Vq.ofQ (h:=Ek hb.lim.l hb.few ha.z.hq ha.t.hq);have h5:=dg (ofQ (aj (fI b.l z t) b.l.length)) (ofQ (b.w:Rat)) (hx:=v0) J Y;have h3:=cN (ofQ (b.w:Rat)) b.a (hy:=hb.lim.a.v) Y Y;have v1:Vq (ofQ (aj (gI b.l z t) b.l.length)) (aj (gI b.l z t) b.l.length) (96*(n+1+(m+1)+60)+200):=Vq.ofQ (h:=Em hb.lim.l hb.few ha.z.hq ha.t.hq);have v2:Vq (ofQ ((b.w:Rat)*b.a.val)) ((b.w:Rat)*b.a.val) 17:=Vq.ofQ (h:=vJ hb);have h4:=dg (ofQ (aj (gI b.l z t) b.l.length)) (ofQ ((b.w:Rat)*b.a.val)) (hx:=v1) (hy:=v2) J Y;have key:decide ((bd b).Bal z t)=(decide (sgn (aj (fI b.l z t) b.l.length-(b.w:Rat))=0)&&decide (sgn (aj (gI b.l z t) b.l.length-(b.w:Rat)*b.a.val)=0)):=by
  rw[<-Bool.decide_and,decide_eq_decide,il,il];show aj (fI b.l z t) b.l.length=(b.w:Rat)/\aj (gI b.l z t) b.l.length=(b.w:Rat)*b.a.val↔_;constructor
  .rintro⟨e1,e2⟩;rw[e1,e2];constructor<;>grind
  .rintro⟨e1,e2⟩;constructor<;>grind
 rw[key];generalize sgn (aj (fI b.l z t) b.l.length-(b.w:Rat))=g1 at *
 generalize sgn (aj (gI b.l z t) b.l.length-(b.w:Rat)*b.a.val)=g2 at *
 generalize ofQ (aj (fI b.l z t) b.l.length)=X1 at *
 generalize ofQ (aj (gI b.l z t) b.l.length)=X2 at *
 generalize ofQ ((b.w:Rat)*b.a.val)=X3 at *
 generalize ofQ (b.w:Rat)=X4 at *
 obtain⟨w,ba,l⟩:=b;obtain⟨az,at'⟩:=a;simp only at *
 refine Ret.of_pwp layOk mixed Go.Proofs.Tryz.func110 O Y O O ?_;refine G h1 ?_;refine G h2 ?_;refine bQ 16 [14,15,16,17,18,19,20,21,22,23,24,25,26,27,28,4] ?_;refine ax h5 ?_;refine bP ?_ ?_<;>intro h
 .rw[h];clear h;refine G h3 ?_;refine ax h4 ?_;exact fW
 .rw[h];clear h;exact fW
def Ik (F:List RR)(n:Nat):Prop:=∀x∈F,x.le n
theorem Hv {l:List SR}(hl:fJ l)(hf:nC l){z t:Rat}{n m:Nat}(hz:HQ z n)(ht:HQ t m):Ik (FL l z t) (8*(n+m+60)+4):=by
 intro x hx;obtain⟨s,hs,rfl⟩:=List.mem_map.1 hx;exact dJ (tN (hl.1 s hs) (hf.2 s hs) hz ht).ok
def yr (S1 T1 V1 S2 T2 V2:Rat):Option (Rat × Rat):=if S1*T2-T1*S2=0 then none else some ((V1*T2-T1*V2)/(S1*T2-T1*S2),(S1*V2-V1*S2)/(S1*T2-T1*S2))
set_option maxRecDepth 20000 in
theorem AB (s1 t1 v1 s2 t2 v2:RR){S1 T1 V1 S2 T2 V2:Rat}{n:Nat}(a1:Vq s1 S1 n)(a2:Vq t1 T1 n)(a3:Vq v1 V1 n)(a4:Vq s2 S2 n)(a5:Vq t2 T2 n)(a6:Vq v2 V2 n)(hn:n<=1000000) :
  Ret Tryz.prog .shared 111 [.agg (eK s1 t1 v1),.agg (eK s2 t2 v2)] (js (yr S1 T1 V1 S2 T2 V2)):=by
 have m1:=cN s1 t2 (hx:=a1) (hy:=a5) J J;have m2:=cN t1 s2 (hx:=a2) (hy:=a4) J J;have w1:Vq (ofQ (S1*T2)) (S1*T2) (n+1+(n+1)):=Vq.ofQ (h:=@HQ.mul _ _ _ _ a1.hq a5.hq);have w2:Vq (ofQ (T1*S2)) (T1*S2) (n+1+(n+1)):=Vq.ofQ (h:=@HQ.mul _ _ _ _ a2.hq a4.hq);have m3:=jp (ofQ (S1*T2)) (ofQ (T1*S2)) (hx:=w1) (hy:=w2) J J;have w3:Vq (ofQ (S1*T2-T1*S2)) (S1*T2-T1*S2) (n+1+(n+1)+(n+1+(n+1))+1):=Vq.ofQ (h:=@HQ.sub _ _ _ _ (cx w1) (cx w2));have sg:=kQ (ofQ (S1*T2-T1*S2)) (hx:=w3) J;have hs0:=il (S1*T2-T1*S2);by_cases h0:S1*T2-T1*S2=0
 .rw[yr,if_pos h0];rw[hs0.2 h0]at sg;simp only[js];generalize ofQ (S1*T2-T1*S2)=D0 at *
  generalize ofQ (S1*T2)=D1 at *
  generalize ofQ (T1*S2)=D2 at *
  refine Ret.of_pwp layOk mixed Go.Proofs.Tryz.func111 O Y O O ?_;refine H ?_;refine bj 11 1 [9,10,11,12,13,14,15,16,17,18,19,6] [] aX O ?_;refine G m1 ?_;refine G m2 ?_;refine G m3 ?_;refine ax sg ?_;exact bM
 .have hne:sgn (S1*T2-T1*S2)≠0:=fun h=>h0 (hs0.1 h);rw[yr,if_neg h0];have m4:=cN v1 t2 (hx:=a3) (hy:=a5) J J;have m5:=cN t1 v2 (hx:=a2) (hy:=a6) J J;have w4:Vq (ofQ (V1*T2)) (V1*T2) (n+1+(n+1)):=Vq.ofQ (h:=@HQ.mul _ _ _ _ a3.hq a5.hq);have w5:Vq (ofQ (T1*V2)) (T1*V2) (n+1+(n+1)):=Vq.ofQ (h:=@HQ.mul _ _ _ _ a2.hq a6.hq);have m6:=jp (ofQ (V1*T2)) (ofQ (T1*V2)) (hx:=w4) (hy:=w5) J J;have w6:Vq (ofQ (V1*T2-T1*V2)) (V1*T2-T1*V2) (n+1+(n+1)+(n+1+(n+1))+1):=Vq.ofQ (h:=@HQ.sub _ _ _ _ (cx w4) (cx w5));have m7:=BO (ofQ (V1*T2-T1*V2)) (ofQ (S1*T2-T1*S2)) (hx:=w6) (hy:=w3) J J h0;have m8:=cN s1 v2 (hx:=a1) (hy:=a6) J J;have m9:=cN v1 s2 (hx:=a3) (hy:=a4) J J;have w8:Vq (ofQ (S1*V2)) (S1*V2) (n+1+(n+1)):=Vq.ofQ (h:=@HQ.mul _ _ _ _ a1.hq a6.hq);have w9:Vq (ofQ (V1*S2)) (V1*S2) (n+1+(n+1)):=Vq.ofQ (h:=@HQ.mul _ _ _ _ a3.hq a4.hq);have ma:=jp (ofQ (S1*V2)) (ofQ (V1*S2)) (hx:=w8) (hy:=w9) J J;have wa:Vq (ofQ (S1*V2-V1*S2)) (S1*V2-V1*S2) (n+1+(n+1)+(n+1+(n+1))+1):=Vq.ofQ (h:=@HQ.sub _ _ _ _ (cx w8) (cx w9));have mb:=BO (ofQ (S1*V2-V1*S2)) (ofQ (S1*T2-T1*S2)) (hx:=wa) (hy:=w3) J J h0;simp only[js];generalize ofQ ((V1*T2-T1*V2)/(S1*T2-T1*S2))=R1 at *
  generalize ofQ ((S1*V2-V1*S2)/(S1*T2-T1*S2))=R2 at *
  generalize sgn (S1*T2-T1*S2)=gs at *
  generalize ofQ (S1*T2-T1*S2)=D0 at *
  generalize ofQ (V1*T2-T1*V2)=D3 at *
  generalize ofQ (S1*V2-V1*S2)=D4 at *
  generalize ofQ (S1*T2)=D1 at *
  generalize ofQ (T1*S2)=D2 at *
  generalize ofQ (V1*T2)=D5 at *
  generalize ofQ (T1*V2)=D6 at *
  generalize ofQ (S1*V2)=D7 at *
  generalize ofQ (V1*S2)=D8 at *
  refine Ret.of_pwp layOk mixed Go.Proofs.Tryz.func111 O Y O O ?_;refine H ?_;refine bj 11 1 [9,10,11,12,13,14,15,16,17,18,19,6] [] aX O ?_;refine G m1 ?_;refine G m2 ?_;refine G m3 ?_;refine ax sg ?_;refine D ?_ ?_<;>intro h
  .exact absurd (ay h) hne
  clear h;refine H ?_;refine bj 13 1 [24,25,26,27,28,29,30,31,32,33,34,35,36,7] [] aX O ?_;refine G m4 ?_;refine G m5 ?_;refine G m6 ?_;refine G m7 ?_;refine H ?_;refine bj 13 1 [37,38,39,40,41,42,43,44,45,46,47,48,49,8] [] aX O ?_;refine G m8 ?_;refine G m9 ?_;refine G ma ?_;refine G mb ?_;exact bM
theorem uP {n k:Nat}(h:k<n):List.range n=List.range k++k::List.range' (k+1) (n-(k+1)):=by
 rw[List.range_eq_range',List.range_eq_range',show n=k+(1+(n-(k+1))) by omega,<-List.range'_append_1,<-List.range'_append_1];simp;congr 1;omega
theorem EM {α:Type}(p:α->Bool)(f:Nat->List α){n k i:Nat}{a:α}(hk:k<n)(h1:∀k',k'<k->∀x∈f k',p x=false)(hi:(f k)[i]? = some a)(h2:∀j,j<i->∀x,(f k)[j]? = some x->p x=false)(ha:p a=true) :
  ((List.range n).flatMap f).find? p=some a:=by
 obtain⟨hlt,he⟩:=bu hi;rw[uP hk,List.flatMap_append,List.flatMap_cons];have e:f k=(f k).take i++a::(f k).drop (i+1):=by
  rw[<-he,<-List.drop_eq_getElem_cons hlt,List.take_append_drop]
 rw[List.find?_append,List.find?_append];have n1:((List.range k).flatMap f).find? p=none:=List.find?_eq_none.2 fun x hx=>by
  obtain⟨k',hk',hx⟩:=List.mem_flatMap.1 hx;simp[h1 k' (List.mem_range.1 hk') x hx]
 have n2:((f k).take i).find? p=none:=List.find?_eq_none.2 fun x hx=>by
  obtain⟨j,hj⟩:=List.mem_iff_getElem?.1 hx;rw[List.getElem?_take]at hj;split at hj
  .rename_i hji;simp[h2 j hji x hj]
  .cases hj
 rw[n1]
 conv=>lhs;rw[e]
 rw[List.find?_append,n2,List.find?_cons_of_pos ha];rfl
theorem rX {α:Type}(p:α->Bool)(f:Nat->List α){n:Nat}(h1:∀k',k'<n->∀x∈f k',p x=false):((List.range n).flatMap f).find? p=none:=List.find?_eq_none.2 fun x hx=>by
 obtain⟨k',hk',hx⟩:=List.mem_flatMap.1 hx;simp[h1 k' (List.mem_range.1 hk') x hx]
abbrev Ln:=Bd.Ln
def pZ (l:Ln):List PV:=eK (ofQ l.s) (ofQ l.t) (ofQ l.v)
structure LnH (l:Ln):Prop where
 s:HQ l.s 300
 t:HQ l.t 300
 v:HQ l.v 4200
theorem k7 {a c:Ln}(ha:LnH a)(hc:LnH c){p:Rat × Rat}(h:Bd.cross a c=some p):HQ p.1 12000/\HQ p.2 12000:=by
 rw[Bd.cross]at h;split at h
 .cases h
 .cases h;have dt:=@HQ.sub _ _ _ _ (@HQ.mul _ _ 300 300 ha.s hc.t) (@HQ.mul _ _ 300 300 ha.t hc.s);exact⟨(@HQ.div _ _ _ _ (@HQ.sub _ _ _ _ (@HQ.mul _ _ 4200 300 ha.v hc.t) (@HQ.mul _ _ 300 4200 ha.t hc.v)) dt).mono Y,(@HQ.div _ _ _ _ (@HQ.sub _ _ _ _ (@HQ.mul _ _ 300 4200 ha.s hc.v) (@HQ.mul _ _ 4200 300 ha.v hc.s)) dt).mono Y⟩
def Iq (o:Option (Rat × Rat)):AR:=match o with
 |none=>zA
 |some p=>⟨ofQ p.1,ofQ p.2⟩
def bL (l:List SR):List Ln:=l.flatMap fun s=>s.k.S.map fun(n:Int)=>⟨1,(s.x:Rat),(n:Rat)-s.c.val⟩
def dH (b:BR)(p:Nat->Nat):Ln:=(bd b).force p
def cO (b:BR)(p:Nat->Nat):Ln:=(bd b).moment p
def ju (l:List Nat)(i:Nat):Nat:=l.getD i 0
def lY (F M e:Ln):List (Rat × Rat):=(Bd.cross F e).toList++(Bd.cross M e).toList
def gM (F M:Ln)(E:List Ln):List (Rat × Rat):=match Bd.cross F M with
 |some a=>[a]
 |none=>(E++[Bd.flat]).flatMap (lY F M)
def fG (b:BR):List Nat:=b.l.map fun s=>s.k.S.length
def eQ (b:BR)(k:Nat):List (Rat × Rat):=gM (dH b (ju (dL (fG b) k))) (cO b (ju (dL (fG b) k))) (bL b.l)
def f7 (b:BR)(a:Rat × Rat):Bool:=decide ((bd b).Bal a.1 a.2)
def nr (E:List Ln)(i:Nat):List (Rat × Rat):=(List.range i).flatMap fun j=>(Bd.cross (E.getD i Bd.flat) (E.getD j Bd.flat)).toList
def cK (b:BR):List Ln:=bL b.l++[Bd.flat]
def iK (b:BR):Option (Rat × Rat):=match ((List.range (cn (fG b))).flatMap (eQ b)).find? (f7 b) with
 |some a=>some a
 |none=>((List.range (cK b).length).flatMap (nr (cK b))).find? (f7 b)
theorem rY:LnH Bd.flat:=⟨HQ.zero.mono Y,HQ.one.mono Y,HQ.zero.mono Y⟩
theorem oz {l:List SR}(hl:fJ l){e:Ln}(h:e∈bL l):LnH e:=by
 obtain⟨s,hs,he⟩:=List.mem_flatMap.1 h;obtain⟨n,hn,rfl⟩:=List.mem_map.1 he;have hs:=hl.1 s hs;have zx:Zb s.x:=aL hs.x.1 hs.x.2;have hn:=hs.k.s n hn;have zn:Zb n:=aL hn.1 hn.2;exact⟨HQ.one.mono Y,(HQ.int (z:=s.x)).mono Y,(@HQ.sub _ _ 4 13 (HQ.int (z:=n)) hs.c.v.hq).mono Y⟩
theorem wC {b:BR}(hb:b.Ok){e:Ln}(h:e∈cK b):LnH e:=by
 rcases List.mem_append.1 h with h|h
 .exact oz hb.lim.l h
 .rw[List.mem_singleton.1 h];exact rY
theorem jL {E:List Ln}(hE:∀e∈E,LnH e)(i:Nat):LnH (E.getD i Bd.flat):=by
 rw[List.getD_eq_getElem?_getD];cases h:E[i]? with
 |none=>exact rY
 |some e=>exact hE e (a_ h)
theorem ss (b:BR)(k:Nat):∀i,i<b.l.length->ju (dL (fG b) k) i<=(bd b).n i:=fun i hi=>by
 have h:=yH (fG b) k i (by rw[fG,List.length_map];exact hi);have e:(fG b).getD i 0=(bd b).n i:=by
  rw[fG,List.getD_eq_getElem?_getD,List.getElem?_map,aN (d:=dS) hi];rfl
 rw[e]at h;exact h
theorem ym {b:BR}(hb:b.Ok){p:Nat->Nat}(hp:∀i,i<b.l.length->p i<=(bd b).n i):LnH (dH b p):=by
 have zw:Zb b.w:=aL hb.lim.w.1 hb.lim.w.2;exact⟨x7 hb p,tg hb p,(@HQ.sub _ _ 4 4100 (HQ.int (z:=b.w)) (Bq hb hp)).mono Y⟩
theorem un {b:BR}(hb:b.Ok){p:Nat->Nat}(hp:∀i,i<b.l.length->p i<=(bd b).n i):LnH (cO b p):=by
 have zw:Zb b.w:=aL hb.lim.w.1 hb.lim.w.2;exact⟨tg hb p,Bs hb p,(@HQ.sub _ _ 17 4100 (@HQ.mul _ _ 4 13 (HQ.int (z:=b.w)) hb.lim.a.v.hq) (FW hb hp)).mono Y⟩
theorem Hg {F M e:Ln}(hF:LnH F)(hM:LnH M)(he:LnH e){a:Rat × Rat}(h:a∈lY F M e):HQ a.1 12000/\HQ a.2 12000:=by
 rcases List.mem_append.1 h with h|h
 .exact k7 hF he (Option.mem_toList.1 h)
 .exact k7 hM he (Option.mem_toList.1 h)
theorem Ex {F M:Ln}{E:List Ln}(hF:LnH F)(hM:LnH M)(hE:∀e∈E,LnH e){a:Rat × Rat}(h:a∈gM F M E):HQ a.1 12000/\HQ a.2 12000:=by
 rw[gM]at h;split at h
 .rename_i p hp;rw[List.mem_singleton.1 h];exact k7 hF hM hp
 .obtain⟨e,he,h⟩:=List.mem_flatMap.1 h;refine Hg hF hM ?_ h;rcases List.mem_append.1 he with he|he
  .exact hE e he
  .rw[List.mem_singleton.1 he];exact rY
theorem tq {b:BR}(hb:b.Ok){k:Nat}{a:Rat × Rat}(h:a∈eQ b k):HQ a.1 12000/\HQ a.2 12000 :=
 Ex (ym hb (ss b k)) (un hb (ss b k)) (fun _ he=>oz hb.lim.l he) h
theorem yF {b:BR}(hb:b.Ok){i:Nat}{a:Rat × Rat}(h:a∈nr (cK b) i):HQ a.1 12000/\HQ a.2 12000:=by
 obtain⟨j,_,h⟩:=List.mem_flatMap.1 h;exact k7 (jL (fun _ he=>wC hb he) i) (jL (fun _ he=>wC hb he) j) (Option.mem_toList.1 h)
theorem DQ {b:BR}(hb:b.Ok){a:Rat × Rat}(h:iK b=some a):(bd b).Bal a.1 a.2/\HQ a.1 12000/\HQ a.2 12000:=by
 rw[iK]at h;split at h
 .rename_i x hx;cases h;refine⟨ay (show f7 b a=true from List.find?_some hx),?_⟩;obtain⟨k,_,hk⟩:=List.mem_flatMap.1 (List.mem_of_find?_eq_some hx);exact tq hb hk
 .refine⟨ay (show f7 b a=true from List.find?_some h),?_⟩;obtain⟨k,_,hk⟩:=List.mem_flatMap.1 (List.mem_of_find?_eq_some h);exact yF hb hk
theorem iQ {b:BR}{i k:Nat}(hi:i<(bd b).N)(hk:k<(bd b).n i):(bd b).corner i k∈bL b.l:=by
 refine List.mem_flatMap.2 ⟨b.l.getD i dS,aM hi,List.mem_map.2 ⟨(b.l.getD i dS).k.S.getD k 0,a_ (aN hk),O⟩⟩
theorem o7 {b:BR}{p:Nat->Nat}(hp:∀i,i<(bd b).N->p i<=(bd b).n i):∃k,k<cn (fG b)/\∀i,i<(bd b).N->ju (dL (fG b) k) i=p i:=by
 have hn:(fG b).length=b.l.length:=by rw[fG,List.length_map]
 obtain⟨k,h1,h2⟩:=uG (fG b) ((List.range b.l.length).map p) (by simp[hn]) fun i hi=>by
  have hi':i<b.l.length:=J;have e:(fG b).getD i 0=(bd b).n i:=by
   rw[fG,List.getD_eq_getElem?_getD,List.getElem?_map,aN (d:=dS) hi'];rfl
  rw[e,List.getD_eq_getElem?_getD,List.getElem?_map,List.getElem?_range hi'];exact hp i hi'
 refine⟨k,h1,fun i hi=>?_⟩;have hi':i<b.l.length:=hi;rw[ju,h2,List.getD_eq_getElem?_getD,List.getElem?_map,List.getElem?_range hi'];rfl
theorem jn {b:BR}{p q:Nat->Nat}(h:∀i,i<(bd b).N->p i=q i):dH b p=dH b q/\cO b p=cO b q:=by
 have e1:(bd b).Kh p=(bd b).Kh q:=bD fun i hi=>by rw[Bd.k,Bd.k,h i hi]
 have e2:(bd b).Kc p=(bd b).Kc q:=bD fun i hi=>by rw[Bd.k,Bd.k,h i hi]
 have e3:(bd b).Kp p=(bd b).Kp q:=bD fun i hi=>by rw[Bd.k,Bd.k,h i hi]
 have e4:(bd b).Fo p=(bd b).Fo q:=bD fun i hi=>by rw[Bd.k,Bd.k,Bd.o,Bd.o,h i hi]
 have e5:(bd b).Go p=(bd b).Go q:=bD fun i hi=>by rw[Bd.k,Bd.k,Bd.o,Bd.o,h i hi]
 exact⟨by rw[dH,dH,Bd.force,Bd.force,e1,e2,e4],by rw[cO,cO,Bd.moment,Bd.moment,e2,e3,e5]⟩
theorem sT {b:BR}{k:Nat}{a:Rat × Rat}(hk:k<cn (fG b))(h:a∈eQ b k)(hb:(bd b).Bal a.1 a.2):iK b≠none:=by
 rw[iK];split
 .intro h;cases h
 .rename_i h2;have:=List.find?_eq_none.1 h2 a (List.mem_flatMap.2 ⟨k,List.mem_range.2 hk,h⟩);exact absurd (decide_eq_true hb) this
theorem vo {b:BR}{i j:Nat}{a:Rat × Rat}(hi:i<(cK b).length)(hj:j<i)(h:Bd.cross ((cK b).getD i Bd.flat) ((cK b).getD j Bd.flat)=some a)(hb:(bd b).Bal a.1 a.2):iK b≠none:=by
 rw[iK];split
 .intro h;cases h
 .intro h2;have:=List.find?_eq_none.1 h2 a (List.mem_flatMap.2 ⟨i,List.mem_range.2 hi,List.mem_flatMap.2 ⟨j,List.mem_range.2 hj,Option.mem_toList.2 h⟩⟩);exact absurd (decide_eq_true hb) this
theorem pF {b:BR}{e f:Ln}{a:Rat × Rat}(he:e∈cK b)(hf:f∈cK b)(h1:e.on a.1 a.2)(h2:f.on a.1 a.2)(hd:e.s*f.t-e.t*f.s≠0)(hb:(bd b).Bal a.1 a.2):iK b≠none:=by
 obtain⟨i,hi⟩:=List.mem_iff_getElem?.1 he;obtain⟨j,hj⟩:=List.mem_iff_getElem?.1 hf;have gi:(cK b).getD i Bd.flat=e:=by rw[List.getD_eq_getElem?_getD,hi];rfl
 have gj:(cK b).getD j Bd.flat=f:=by rw[List.getD_eq_getElem?_getD,hj];rfl
 have li:=(bu hi).1;have lj:=(bu hj).1;rcases Nat.lt_trichotomy i j with h|h|h
 .exact vo lj h (by rw[gi,gj];exact Bd.cross_at h2 h1 (by intro h0;apply hd;grind)) hb
 .subst h;rw[gi]at gj;exfalso;apply hd;rw[gj];grind
 .exact vo li h (by rw[gi,gj];exact Bd.cross_at h1 h2 hd) hb
theorem FH {b:BR}(hb:b.Ok){z t:Rat}(h:(bd b).Bal z t):∃a,iK b=some a:=by
 have hw:(bd b).w≠0:=by
  have:=oo hb.chk;show((b.w:Int):Rat)≠0;have h2:b.w≠0:=J
  exact_mod_cast h2
 have key:iK b≠none:=by
  rcases Bd.found (fO hb) hw h with⟨p,a,hp,h1,h2⟩|⟨p,a,hp,h0,i,k,hi,hk,h1,h2⟩|⟨p,a,hp,h0,h1,h2⟩|⟨a,i,k,j,l,hi,hk,hj,hl,hn,h1,h1',h2⟩|⟨a,i,k,hi,hk,h1,h1',h2⟩
  .obtain⟨k,hk,e⟩:=o7 hp;obtain⟨e1,e2⟩:=jn e;refine sT hk ?_ h2;have h1:Bd.cross (dH b p) (cO b p)=some a:=h1;rw[eQ,e1,e2,gM,h1];exact List.mem_singleton.2 O
  .obtain⟨m,hm,e⟩:=o7 hp;obtain⟨e1,e2⟩:=jn e;refine sT hm ?_ h2;have h0:Bd.cross (dH b p) (cO b p)=none:=h0;rw[eQ,e1,e2,gM,h0];exact List.mem_flatMap.2 ⟨_,List.mem_append_left _ (iQ hi hk),List.mem_append_left _ (Option.mem_toList.2 h1)⟩
  .obtain⟨m,hm,e⟩:=o7 hp;obtain⟨e1,e2⟩:=jn e;refine sT hm ?_ h2;have h0:Bd.cross (dH b p) (cO b p)=none:=h0;rw[eQ,e1,e2,gM,h0];exact List.mem_flatMap.2 ⟨_,List.mem_append_right _ (List.mem_singleton.2 O),List.mem_append_left _ (Option.mem_toList.2 h1)⟩
  .refine pF (List.mem_append_left _ (iQ hi hk)) (List.mem_append_left _ (iQ hj hl)) h1 h1' ?_ h2;show(1:Rat)*(bd b).X j-(bd b).X i*1≠0;intro h0;apply hn;grind
  .refine pF (List.mem_append_left _ (iQ hi hk)) (List.mem_append_right _ (List.mem_singleton.2 O)) h1 h1' ?_ h2;show(1:Rat)*1-(bd b).X i*0≠0;grind
 cases hq:iK b with
 |none=>exact absurd hq key
 |some a=>exact⟨a,rfl⟩
end Go.Pv
namespace Go.Pv
open Go.RowKit
variable [Globs]
variable {s:St}
theorem Ghost.freezeD {k gk k0 g0 i j n sz:Nat}{T:TypeId}{rows:List (List PV)}{c0:Cont}{row:List PV}(hk:Nat.beq k0 k=false)(ho:s.own k=(gk,some ⟨T,sz,rows,1⟩))(h0:s.own k0=(g0,some c0))(hkind:c0.kind=2)(hrow:c0.rows[i]? = some row)(hj:row[j]? = some (.als k gk 0 n))(hz0:Nat.blt 0 c0.sz=true)(hn:n=rows.length) :
  Ghost s ((s.setOwn k (gk+1) none).setOwn k0 g0 (some ⟨c0.ty,c0.sz,c0.rows.set i (row.set j (.sl rows)),2⟩)):=by
 intro C a w hX ⟨γ,h⟩;subst hn;have hne:k0≠k:=fun e=>by subst e;simp at hk
 obtain⟨h1,hle,-⟩:=h.drop hX ho;have ho1:(s.setOwn k (gk+1) none).own k0=(g0,some c0):=by rw[aI hne];exact h0
 have hsite:=h.sites k0 c0 (by rw[h0]);have hlt:=(bu hrow).1;have hlt2:=(bu hj).1;have hfr:∀v,Rep (aq C γ s w) (.als k gk 0 rows.length) v->Rep (aq C γ (s.setOwn k (gk+1) none) w) (.sl rows) v:=by
  intro v hp;refine .d ?_;rcases h.als_at hp ho with⟨q1,_,q3,q4⟩|⟨b,cap,cur,q1,q2,q3,q4,q5,q6,q7⟩
  .have:rows=[]:=(h.sites k _ (by rw[ho])).emp q1;rw[this,q4];exact .sl0 _ _
  .obtain⟨cur',g1,g2,g3,g4,g5⟩:=h.site_at ho q1 (h.cells_sz ho q1 q3 q6);have hb:(aq C γ (s.setOwn k (gk+1) none) w).ok b:=by
    have hbase:=h.base k _ b (by rw[ho]) q1;refine⟨hbase.2,fun hx=>?_,fun k' c' hc' hb'=>?_⟩
    .have:=hX b hx;omega
    .by_cases hk':k'=k
     .subst hk';rw[ap]at hc';cases hc'
     .rw[aI hk']at hc';exact hk' (h.inj k' k c' _ b hc' (by rw[ho]) hb' q1)
   rw[q2];simp only[Nat.zero_mul];refine .sl rows b 0 cap sz (fun i j=>cur'.getD (i*sz+j) undef) hb g2 q4 g4 (fun i j row pv e1 e2=>?_) (fun i j row pv e1 e2=>?_)
   .obtain⟨u,f1,f2,_⟩:=g5 i j row pv e1 e2;have g1:w.heap[b]? = some (.cells cur' T (0,0)):=g1;show w.cell? _=_/\_;rw[bi g1,Nat.zero_add,f1];simp[f1,f2]
   .obtain⟨u,f1,_,f3⟩:=g5 i j row pv e1 e2;have hu:cur'.getD (i*sz+j) undef=u:=by simp[f1]
    simp only[hu];exact hle.drep f3
 have he:=lk (C:=C) (γ:=γ) (w:=w) (c1:=⟨c0.ty,c0.sz,c0.rows.set i (row.set j (.sl rows)),2⟩) ho1 O O ak;have hother:∀k',k'≠k0->((s.setOwn k (gk+1) none).setOwn k0 g0 (some ⟨c0.ty,c0.sz,c0.rows.set i (row.set j (.sl rows)),2⟩)).own k'=(s.setOwn k (gk+1) none).own k':=fun k' hk'=>aI hk';have hsome:∀k' c',(((s.setOwn k (gk+1) none).setOwn k0 g0 (some ⟨c0.ty,c0.sz,c0.rows.set i (row.set j (.sl rows)),2⟩)).own k').2=some c'->∃c'',((s.setOwn k (gk+1) none).own k').2=some c'':=by
  intro k' c' hc';by_cases hk':k'=k0
  .subst hk';exact⟨c0,by rw[ho1]⟩
  .rw[hother k' hk']at hc';exact⟨c',hc'⟩
 refine⟨γ,h1.defers,h1.size,fun r=>by rw[he];exact h1.regs r,fun k' c' hc'=>?_,fun k1 k2 c1 c2 b e1 e2 e3 e4=>?_,fun k' c' b e1 e2=>?_,h1.below,h1.top,fun c v hk=>by rw[he];exact h1.kept c v hk⟩
 .rw[he];by_cases hk':k'=k0
  .subst hk';rw[ap]at hc';have hc':=Option.some.inj hc';subst hc';have hz0:0<c0.sz:=by simpa using hz0
   refine⟨fun hb=>?_,(fun b _ hz=>by simp only at hz;omega),(fun b _ hz=>by simp only at hz;omega),fun b hb _=>?_⟩
   .have:=hsite.emp hb;rw[this]at hrow;simp at hrow
   .obtain⟨cur,f1,f2,f3,f4,f5⟩:=hsite.at_ b hb hz0;refine⟨cur,f1,f2,by simpa using f3,fun r hr=>?_,fun i' j' row1 pv1 e1 e2=>?_⟩
    .rcases List.mem_or_eq_of_mem_set hr with hr|rfl
     .exact f4 r hr
     .simpa using f4 row (a_ hrow)
    .by_cases hi:i'=i
     .subst hi;rw[List.getElem?_set_self hlt]at e1;have e1:=Option.some.inj e1;subst e1;by_cases hjj:j'=j
      .subst hjj;rw[List.getElem?_set_self hlt2]at e2;have e2:=Option.some.inj e2;subst e2;obtain⟨v,u1,u2,u3⟩:=f5 i' j' row _ hrow hj;rw[hkind]at u3;exact⟨v,u1,u2,hfr v u3⟩
      .rw[List.getElem?_set_ne (Ne.symm hjj)]at e2;obtain⟨v,u1,u2,u3⟩:=f5 i' j' row pv1 hrow e2;rw[hkind]at u3;exact⟨v,u1,u2,Rep.mono hle u3⟩
     .rw[List.getElem?_set_ne (Ne.symm hi)]at e1;obtain⟨v,u1,u2,u3⟩:=f5 i' j' row1 pv1 e1 e2;rw[hkind]at u3;exact⟨v,u1,u2,Rep.mono hle u3⟩
  .rw[hother k' hk']at hc';exact h1.sites k' c' hc'
 .obtain⟨d,hd⟩:=hsome k1 c1 e1;obtain⟨d',hd'⟩:=hsome k2 c2 e2;exact h1.inj k1 k2 d d' b hd hd' e3 e4
 .obtain⟨d,hd⟩:=hsome k' c' e1;exact h1.base k' d b hd e2
end Go.Pv
set_option maxHeartbeats 2000000
namespace Go.Pv
attribute [local irreducible] PWP POps PQuiet PSem aG au am ao
open Go.Proofs
set_option maxRecDepth 20000 in
theorem ov (l:List Int)(hl:l.length<=1000000000):Ret Tryz.prog .fresh 125 [.sl (l.map eN)] (.sl (l.map eN)):=by
 refine Ret.of_pwp layOk mixed Go.Proofs.Tryz.func125 O Y O O ?_
 ((repeat ((fail_if_success (with_reducible refine a8 1 ?_));refine cP O ?_));refine aQ 1 ?_)
 refine fH O ?_;refine aW ?_;refine bg O (rg layOk O O O (fun h0=>?_) ?_)
 .rw[h0];refine aU ?_
  (repeat ((fail_if_success (with_reducible refine fa ?_));refine cP O ?_))
  refine aF (Ghost.nilfs (t:=2) O) ?_;refine H ?_;exact qp O O O trivial O
 .refine aU ?_;refine H ?_;refine aB (bb 0 O O O O O O O O O O O aK O ?_);refine H ?_;refine aB (bE 1 O O O O O O O O O O O aK (by intro row hr;obtain⟨p,_,rfl⟩:=List.mem_map.1 hr;rfl) O O aT aT ?_)
  (repeat ((fail_if_success (with_reducible refine fa ?_));refine cP O ?_))
  refine aF (Ghost.takeF (k:=5) (t:=2) l O O O O (fun _=>rfl)) ?_;refine H ?_;exact qp O O O aK O
def l9 (x:RR):RR:=ofQ x.val
def vN (x:SR):SR:=⟨x.x,l9 x.c,⟨x.k.S,x.k.M.map l9⟩⟩
def Ii (ch:SR->SR)(b:BR):BR:=⟨b.w,l9 b.a,b.l.map fun x=>ch (vN x)⟩
structure ChOk (f:FuncId) (caps:List PV) (ch:SR->SR) (x:SR):Prop where
 run:∀ {K:St->Prop} {s:St} {d g g4 g5 g400:Nat} {c4 c5 c400:Cont} {c a:Operand} {tys:Array TypeId} {ty:TypeId} {pos:String} {af:Array Edge},s.ev c = .clo f caps->s.ev a = .ptr 8 g 0 0 ->
 FitO s [(8,g,⟨71,7,[eS x],2⟩),(4,g4,c4),(5,g5,c5),(400,g400,c400)] ->
 (∀s1:St,K (({ reg:=s.reg,own:=(s1.over [] [(8,g,⟨71,7,[eS (ch x)],2⟩),(4,g4,c4),(5,g5,c5),(400,g400,c400)]).own }:St).putR d (.tup []))) ->
 Sm Tryz.prog lay.get s ⟨some d,.call ⟨.value c,#[a],tys⟩,ty,pos,af,none⟩ K
theorem ER (x:SR):ChOk 65 [] id x:=by
 constructor;intro K s d g g4 g5 g400 c4 c5 c400 c a tys ty pos af hc ha ho hK;refine cD layOk O hc Tryz.func65 O Y O O ?_;show PWP _ _ _ _ (bW s (([a]:List Operand).map s.ev++[]));have hk:=hK s;simp only[id_eq]at hk;rw[Fit.over (l:=[]) ho]at hk;refine H ?_;exact lx O hk
theorem ib {α β:Type}{f:α->β}{l:List α}{k:Nat}{x:α}(h:l[k]? = some x):(l.take (k+1)).map f=(l.take k).map f++[f x]:=by rw[bG h,List.map_append];rfl
set_option maxRecDepth 20000 in
theorem we (b:BR)(hb:b.Lim)(h12:b.l.length<=1000)(hM:∀s∈b.l,s.k.M.length<=1000)(cl:FuncId)(caps:List PV)(ch:SR->SR)(hch:∀s∈b.l,ChOk cl caps ch (vN s)) :
  Ret Tryz.prog .shared 64 [.agg (eB b),.clo cl caps] (.agg (eB (Ii ch b))):=by
 have h1:=EW b.a (hx:=hb.a.v) Y;have hml:(b.l.map eS).length=b.l.length:=ak;obtain⟨w,ba,l⟩:=b;simp only at *
 have hll:=hb.l.1;rw[show ofQ ba.val=l9 ba from O]at h1;clear hb;generalize hG:(fun x=>ch (vN x))=G0;rw[Ii,hG];generalize l9 ba=A0 at *
 refine Ret.of_pwp layOk mixed Go.Proofs.Tryz.func64 O Y O O ?_;refine H ?_;refine bj 6 1 [11,12,13,14,15,16,5] [] aX O ?_;refine G h1 ?_;refine H ?_;refine aF (Ghost.nilcell (k:=400) (k0:=5) (i:=0) (j:=5) (row:=I w::(eR A0++[.nil])) 71 7 1 O O O O O O O) ?_;refine ar (fun i:Nat=>i<=l.length) (fun i=>[(1,.clo cl caps),(4,.ptr 4 1 0 0),(5,.ptr 5 1 0 0),(18,.sl (l.map eS)),(19,I l.length),(20,I (i:Nat))])
  (fun i=>[(4,1,⟨29,6,[I 0::(zN++[.nil])],2⟩),(5,1,⟨29,6,[I w::(eR A0++[.als 400 (1+i) 0 (((l.take i).map G0).map eS).length])],2⟩),(400,1+i,⟨71,7,((l.take i).map G0).map eS,1⟩)]) (fun i=>l.length-i) 0 (Nat.zero_le _) ⟨O,O,O,O,by rw[<-hml];rfl,O,O,O,O,trivial⟩ ?_
 intro i s hi;refine D ?_ ?_<;>intro h
 .have hlt:i<l.length:=by have:=ay h;omega
  clear h;obtain⟨x,hx⟩:=aO hlt;have hxm:=a_ hx;have hxl:=hll x hxm;have hcx:=hch x hxm;have hMx:=hM x hxm;have hrow:=ib (f:=G0) hx;have hil:((l.take i).map G0).length<=1000:=by rw[List.length_map,List.length_take];omega
  have hw:=ej i;have hGx:G0 x=ch (vN x):=by rw[<-hG]
  generalize G0 x=y at *
  generalize (l.take i).map G0=B at *
  have e1:=EW x.c (hx:=hxl.c.v) Y;rw[show ofQ x.c.val=l9 x.c from O]at e1;have e2:=(ov x.k.S hxl.k.ls).shared_of_fresh;have e3:∀m∈x.k.M,Ret Tryz.prog .shared 124 [.agg (eR m)] (.agg (eR (l9 m))):=fun m hm=>EW m (hx:=(hxl.k.m m hm).v) Y;have hmm:(x.k.M.map eR).length=x.k.M.length:=ak;obtain⟨xx,xc,xS,xM⟩:=x;simp only[vN]at *
  generalize l9 xc=XC at *
  refine aJ hx ?_
  (repeat ((fail_if_success (with_reducible refine a8 5 ?_));refine cP O ?_))
  refine aF (f_ 8) ?_;refine bj 11 1 [24,25,26,27,28,29,30,31,32,33,34,8] [] aX O ?_;refine G e1 ?_;refine G e2 ?_;refine H ?_;refine b7 [(1,.clo cl caps),(4,.ptr 4 1 0 0),(5,.ptr 5 1 0 0),(8,.ptr 8 ((s.own 8).1+2+1) 0 0),(18,.sl (l.map eS)),(19,I l.length),(20,I (i:Nat)),(37,.sl (xM.map eR)),(38,I (xM.map eR).length),(39,I ((0:Nat):Int))]
   [(4,1,⟨29,6,[I 0::(zN++[.nil])],2⟩),(5,1,⟨29,6,[I w::(eR A0++[.als 400 (1+i) 0 (B.map eS).length])],2⟩),(400,1+i,⟨71,7,B.map eS,1⟩),(8,(s.own 8).1+2+1,⟨71,7,[I xx::(eR XC++[.sl (xS.map eN),.nil])],2⟩)]
   ⟨O,O,O,O,O,O,O,O,O,O,O,O,O,O,trivial⟩ ?_
  generalize (s.own 8).1+2+1=g8;rw[hmm];intro s1;refine aF (Ghost.nilcell (k:=300) (k0:=8) (i:=0) (j:=6) (row:=I xx::(eR XC++[.sl (xS.map eN),.nil])) 26 4 1 O O O O O O O) ?_;have hg3:∃g3,(s1.own 300).1+1=g3:=⟨_,O⟩;obtain⟨g3,hg3⟩:=hg3;refine ar (fun k:Nat=>k<=xM.length) (fun k=>[(1,.clo cl caps),(4,.ptr 4 1 0 0),(5,.ptr 5 1 0 0),(8,.ptr 8 g8 0 0),(18,.sl (l.map eS)),(19,I l.length),(20,I (i:Nat)),(37,.sl (xM.map eR)),(38,I xM.length),(39,I (k:Nat))])
   (fun k=>[(4,1,⟨29,6,[I 0::(zN++[.nil])],2⟩),(5,1,⟨29,6,[I w::(eR A0++[.als 400 (1+i) 0 (B.map eS).length])],2⟩),(400,1+i,⟨71,7,B.map eS,1⟩),(8,g8,⟨71,7,[I xx::(eR XC++[.sl (xS.map eN),.als 300 (g3+k) 0 (((xM.take k).map l9).map eR).length])],2⟩),(300,g3+k,⟨26,4,((xM.take k).map l9).map eR,1⟩)]) (fun k=>xM.length-k) 0 (Nat.zero_le _)
   ⟨O,O,O,O,O,O,O,O,O,O,O,O,O,by rw[<-hg3];rfl,by rw[<-hg3];rfl,trivial⟩ ?_
  clear hg3;intro k s2 hk;refine D ?_ ?_<;>intro h
  .have hlk:k<xM.length:=by have:=ay h;omega
   clear h;obtain⟨m,hm⟩:=aO hlk;have e4:=e3 m (a_ hm);have hrk:=ib (f:=l9) hm;have hkl:((xM.take k).map l9).length<=1000:=by rw[List.length_map,List.length_take];omega
   have hwk:IntKind.i64.wrap (((k:Nat):Int)+1)=((k+1:Nat):Int):=by rw[wrap_i64 J J];omega
   generalize l9 m=n at *
   generalize (xM.take k).map l9=E at *
   refine aJ hm ?_
   (repeat ((fail_if_success (with_reducible refine a8 9 ?_));refine cP O ?_))
   refine iE [48,300] [8] 9 [5,6,9] aX aX ?_;refine G e4 ?_;refine H ?_;refine ry O O O (bb 1 O O O O O O O O O O O aK O ⟨iX O,?_⟩);refine H ?_;refine ry O O O (bE 1 O O O O O O O O O O O aK (by intro row hr;first|(simp at hr;subst hr;rfl)|(simp at hr;obtain⟨_,_,rfl⟩:=hr;rfl)|simp at hr) O O aT aT ⟨iX O,?_⟩);refine H ?_;have hb3:g3+(k+1)=g3+k+1:=O;refine⟨k+1,hlk,J,O,O,O,O,O,O,O,O,O,congrArg I hwk,O,O,O,?_,?_,trivial⟩
   .rw[hrk,hb3];refine Eq.trans (b:=(g8,some (Cont.mk 71 7 [I xx::(eR XC++[.sl (xS.map eN),.als 300 (g3+k+1) 0 (E.map eR++[eR n]).length])] 2))) O ?_;rw[show(E++[n]).map eR=E.map eR++[eR n] by rw[List.map_append];rfl]
   .rw[hrk,hb3,show(E++[n]).map eR=E.map eR++[eR n] by rw[List.map_append];rfl];rfl
  .have hke:k=xM.length:=by have:=aH h;omega
   clear h;subst hke;rw[List.take_length];refine aF (Ghost.freezeD (k:=300) (k0:=8) (i:=0) (j:=6) (row:=I xx::(eR XC++[.sl (xS.map eN),.als 300 (g3+xM.length) 0 ((xM.map l9).map eR).length])) O O O O O O O O) ?_
   ((repeat ((fail_if_success (with_reducible refine a8 11 ?_));refine cP O ?_));refine aQ 1 ?_)
   refine fH O ?_;refine aW ?_;refine bg O (hcx.run O O ⟨O,O,O,O,trivial⟩ fun s3=>?_);refine aU ?_;refine H ?_;refine aB (bb 1 O O O O O O O O O O O aK O ?_);refine H ?_;refine aB (bE 1 O O O O O O O O O O O aK (by intro row hr;first|(simp at hr;subst hr;rfl)|simp at hr) O O aT aT ?_);refine H ?_;have hb4:1+(i+1)=1+i+1:=O;refine⟨i+1,hlt,J,O,O,O,O,O,congrArg I hw,O,?_,?_,trivial⟩
   .rw[hrow,hb4];refine Eq.trans (b:=(1,some (Cont.mk 29 6 [I w::(eR A0++[.als 400 (1+i+1) 0 (B.map eS++[eS y]).length])] 2))) ?_ ?_
    .rw[hGx];rfl
    .rw[show(B++[y]).map eS=B.map eS++[eS y] by rw[List.map_append];rfl]
   .rw[hrow,hb4,show(B++[y]).map eS=B.map eS++[eS y] by rw[List.map_append];rfl,hGx];rfl
 .have hie:i=l.length:=by have:=aH h;omega
  clear h;subst hie;rw[List.take_length];refine aF (Ghost.freezeD (k:=400) (k0:=5) (i:=0) (j:=5) (row:=I w::(eR A0++[.als 400 (1+l.length) 0 ((l.map G0).map eS).length])) O O O O O O O O) ?_;exact bM
def zB:List PV:=I 0::(zN++[.nil])
def bZero:BR:=⟨0,RR.zero,[]⟩
theorem WeakL.app {a b c d:List PV}(h1:WeakL a b)(h2:WeakL c d):WeakL (a++c) (b++d):=by
 induction h1 with
 |nil=>exact h2
 |cons h _ ih=>exact .cons h ih
theorem nZ:WeakL zB (eB bZero) := .cons (.rfl _) (gZ.app (.cons .nil .nil))
set_option maxRecDepth 20000 in
theorem tt (b:BR)(hb:b.Lim):Ret Tryz.prog .shared 68 [.agg (eB b)] (.tup [.agg (eB (if bH b=0 then b else bZero)),I (bH b)]):=by
 have h1:=dP b hb;by_cases h0:bH b=0
 .rw[if_pos h0,h0];rw[h0]at h1;refine Ret.of_pwp layOk mixed Go.Proofs.Tryz.func68 O Y O O ?_;refine ax h1 ?_;exact bM
 .rw[if_neg h0]
  suffices hz:Ret Tryz.prog .shared 68 [.agg (eB b)] (.tup [.agg zB,I (bH b)]) from hz.weak (WeakL.refl _) (WeakL.tup (.cons nZ.agg (WeakL.refl _)))
  generalize bH b=e at *
  refine Ret.of_pwp layOk mixed Go.Proofs.Tryz.func68 O Y O O ?_;refine ax h1 ?_;refine D ?_ ?_<;>intro h
  .clear h;exact bM
  .simp at h;exact absurd h h0
open Go.Proofs Go.RowKit Go.Sort
theorem Chg.trans {w w1 w2:World}{b:Nat}{T:TypeId}{c1 c2:Array Value}(h1:Chg w w1 b T c1)(h2:Chg w1 w2 b T c2):Chg w w2 b T c2 :=
 ⟨h2.os.trans h1.os,h2.tape.trans h1.tape,h2.output.trans h1.output,Nat.le_trans h1.size h2.size,fun b' hne hb=>(h2.other b' hne (Nat.lt_of_lt_of_le hb h1.size)).trans (h1.other b' hne hb),h2.at_⟩
theorem Cq {L:Lay}{fn:Func}{K:(Nat->Nat × Option Cont)->PV->Prop}{s:St}{l:List PV}{Cd:Prop}{r:PV}(owns:List (Nat × Nat × Cont))(h:Bi L s fn.results.toList=some (l,Cd))(hc:Cd)(hl:im l=r)(ho:FitO s owns)
  (hk:∀s1:St,K (s1.over [] owns).own r):ao L fn (fun s' r=>K s'.own r) .ret s:=by
 have hk:=hk s;rw[Fit.over (l:=[]) ho,<-hl]at hk;unfold ao;exact⟨l,Cd,h,hc,hk⟩
theorem Cz {c:CR}(hc:c.Lim)(h0:bJ c=0)(h8:c.S.length<=8):HQ (iy c) 600:=by
 rw[iy];split
 .exact HQ.zero.mono Y
 .obtain⟨-,-,-,hasc⟩:=ct h0;rw[cC,fy fun i hi=>hasc i hi];exact(be (m:=4+30) c.S.length fun k _=>o8 hc (Fv hc _) k).mono J
theorem Hm {l:List SR}{A B:Rat}{i:Nat}(h:0<A+B*xI l i):yT l A B i=cI l i*(A+B*xI l i):=by rw[yT,if_pos h]
theorem Hl {l:List SR}{A B:Rat}{i:Nat}(h:¬0<A+B*xI l i):yT l A B i=0:=by rw[yT,if_neg h]
set_option maxRecDepth 20000 in
theorem lN (b:BR)(hb:b.Ok)(r:AR){A B:Rat}{n m:Nat}(hr:Va r A B n m)(h2:n<=90000)(h3:m<=90000):Ret Tryz.prog .shared 105 [.agg (eB b),.agg (eA r)] (.bool (ig b A B)):=by
 have w0:=gL;have h12:=hb.few.1;have hl:=hb.lim.l;have hf:=hb.few;have hck:=hb.chkL;have hml:(b.l.map eS).length=b.l.length:=ak;have zw:Zb b.w:=aL hb.lim.w.1 hb.lim.w.2;have hrz:=hr.z;have hrt:=hr.t;have k1:=cN r.t b.a (hx:=hrt) (hy:=hb.lim.a.v) J Y;have vk1:Vq (ofQ (B*b.a.val)) (B*b.a.val) (m+1+13):=Vq.ofQ (h:=@HQ.mul _ _ _ _ hrt.hq hb.lim.a.v.hq);have k2:=dM r.z (ofQ (B*b.a.val)) (hx:=hrz) (hy:=vk1) J J;have vk2:Vq (ofQ (A+B*b.a.val)) (A+B*b.a.val) (n+1+(m+1+13)+1):=Vq.ofQ (h:=@HQ.add _ _ _ _ hrz.hq (cx vk1));have k3:=bC b.w hb.lim.w;have k4:=cN (ofQ (b.w:Rat)) (ofQ (A+B*b.a.val)) (hy:=vk2) Y J;have vk4:Vq (ofQ ((b.w:Rat)*(A+B*b.a.val))) ((b.w:Rat)*(A+B*b.a.val)) (4+(n+1+(m+1+13)+1)):=Vq.ofQ (h:=@HQ.mul _ _ 4 _ HQ.int (cx vk2));have hF:∀F,ig b A B=F->True:=fun _ _=>trivial;clear hF;have hvs:∀i,i<=b.l.length->d_ b.l A B i->Vq (ofQ (aj (yT b.l A B) i)) (aj (yT b.l A B) i) (i*(200+(n+1+(m+1+4)+1)+1)+4):=fun i hi hal=>Vq.ofQ (h:=be i fun k hk=>za hl hf hrz.hq hrt.hq (show k<b.l.length by omega) (hal k hk));have hBd:∀i,i<=b.l.length->i*(200+(n+1+(m+1+4)+1)+1)+4<=2200000:=fun i hi=>by have:=Nat.mul_le_mul (show i<=12 by omega) (show 200+(n+1+(m+1+4)+1)+1<=180210 by omega);omega
 have hend:d_ b.l A B b.l.length->ig b A B=decide (sgn (aj (yT b.l A B) b.l.length-(b.w:Rat)*(A+B*b.a.val))<0):=fun hal=>by
  have hsl:=fM (aj (yT b.l A B) b.l.length-(b.w:Rat)*(A+B*b.a.val));rw[ig,decide_eq_decide,hsl];constructor
  .intro h;have:=h.2;grind
  .intro h;exact⟨hal,aP⟩
 have hno:∀i,i<b.l.length->0<A+B*xI b.l i->¬EU b.l i->ig b A B=false:=fun i hi hp hn=>by
  cases hq:ig b A B with
  |false=>rfl
  |true=>exact absurd ((iF.1 hq).1 i hi hp) hn
 have hend2:d_ b.l A B b.l.length->Ret Tryz.prog .shared 28 [.agg (eR (ofQ (aj (yT b.l A B) b.l.length))),.agg (eR (ofQ ((b.w:Rat)*(A+B*b.a.val))))] (I (sgn (aj (yT b.l A B) b.l.length-(b.w:Rat)*(A+B*b.a.val)))):=fun hal =>
  dg _ _ (hx:=hvs _ (aS) hal) (hy:=vk4) (by have:=hBd _ (Nat.le_refl b.l.length);omega) J
 generalize hRF:ig b A B=RF at *
 generalize (b.w:Rat)*(A+B*b.a.val)=DM at *
 generalize ofQ DM=D4 at *
 generalize ofQ (A+B*b.a.val)=D2 at *
 generalize ofQ (B*b.a.val)=D1 at *
 generalize ofQ (b.w:Rat)=D3 at *
 clear vk1 vk2 vk4 hRF hb;obtain⟨w,ba,l⟩:=b;obtain⟨rz,rt⟩:=r;simp only at *
 refine Ret.of_pwp layOk mixed Go.Proofs.Tryz.func105 O Y O O ?_;refine G w0 ?_;refine H ?_;refine ar (fun i:Nat=>i<=l.length/\d_ l A B i) (fun i=>[(2,.ptr 2 1 0 0),(3,.ptr 3 1 0 0),(5,.ptr 5 1 0 0),(6,I (i:Nat))])
  (fun i=>[(2,1,⟨29,6,[eB ⟨w,ba,l⟩],2⟩),(3,1,⟨38,8,[eA ⟨rz,rt⟩],2⟩),(5,1,⟨26,4,[eR (ofQ (aj (yT l A B) i))],2⟩)]) (fun i=>l.length-i) 0 ⟨Nat.zero_le _,fun k hk=>by omega⟩ ⟨O,O,O,O,O,O,O,trivial⟩ ?_
 intro i s ⟨hi,hal⟩;refine D ?_ ?_<;>intro h
 .have hlt:i<l.length:=by have:=ay h;simp only at this;omega
  clear h;have hx:=aN (d:=dS) hlt;have hxl:=hl.1 _ (aM hlt);have hxc:=b5 hck _ (aM hlt);have h8:=hf.2 _ (aM hlt);have zx:Zb (l.getD i dS).x:=aL hxl.x.1 hxl.x.2;have hw:=ej i;have e1:=bC (l.getD i dS).x hxl.x;have e2:=cN rt (ofQ ((l.getD i dS).x:Rat)) (hx:=hrt) J Y;have v2:Vq (ofQ (B*((l.getD i dS).x:Rat))) (B*((l.getD i dS).x:Rat)) (m+1+4):=Vq.ofQ (h:=@HQ.mul _ _ (m+1) 4 hrt.hq HQ.int);have e3:=dM rz (ofQ (B*((l.getD i dS).x:Rat))) (hx:=hrz) (hy:=v2) J J;rw[show A+B*((l.getD i dS).x:Rat)=dI l A B i from O]at e3;have v3:Vq (ofQ (dI l A B i)) (dI l A B i) (n+1+(m+1+4)+1):=Vq.ofQ (h:=@HQ.add _ _ (n+1) _ hrz.hq (cx v2));have e4:=kQ (ofQ (dI l A B i)) (hx:=v3) J;have hsl:=xC (dI l A B i);have e5:=AD (l.getD i dS).k hxl.k hxc;have vm:Vq (ofQ (iy (l.getD i dS).k)) (iy (l.getD i dS).k) 600:=Vq.ofQ (h:=Cz hxl.k hxc h8);have e6:=cN (ofQ (iy (l.getD i dS).k)) (ofQ (dI l A B i)) (hx:=vm) (hy:=v3) Y J;have hS:aj (yT l A B) (i+1)=aj (yT l A B) i+yT l A B i:=O;by_cases hd:0<A+B*xI l i
  .have hng:¬sgn (dI l A B i)<=0:=fun h=>by have:=hsl.1 h;have hd2:0<dI l A B i:=hd;grind
   by_cases hlm:aZ (l.getD i dS).k.m (l.getD i dS).k.S.length=0
   .have hmc:=CA hxc hlm;rw[decide_eq_true hlm]at e5;have hal2:d_ l A B (i+1):=fun k hk hp=>by
     rcases Nat.lt_or_ge k i with g|g
     .exact hal k g hp
     .obtain rfl:k=i:=J;exact hlm
    have hy:yT l A B i=iy (l.getD i dS).k*dI l A B i:=by rw[Hm hd,hmc];rfl
    rw[<-hy]at e6;have vy:Vq (ofQ (yT l A B i)) (yT l A B i) (200+(n+1+(m+1+4)+1)):=Vq.ofQ (h:=za hl hf hrz.hq hrt.hq hlt (fun _=>hlm));have e7:=dM (ofQ (aj (yT l A B) i)) (ofQ (yT l A B i)) (hx:=hvs i hi hal) (hy:=vy) (by have:=hBd i hi;omega) J;rw[<-hS]at e7;generalize hS1:ofQ (aj (yT l A B) (i+1))=S1 at *
    generalize ofQ (aj (yT l A B) i)=S0 at *
    generalize ofQ (yT l A B i)=Y0 at *
    generalize ofQ (iy (l.getD i dS).k)=M0 at *
    generalize sgn (dI l A B i)=sg at *
    generalize ofQ (dI l A B i)=E0 at *
    generalize ofQ (B*((l.getD i dS).x:Rat))=E1 at *
    generalize ofQ ((l.getD i dS).x:Rat)=E2 at *
    generalize l.getD i dS=x at *
    obtain⟨xx,xc,xk⟩:=x;simp only at *
    refine aJ hx ?_
    (repeat ((fail_if_success (with_reducible refine a8 6 ?_));refine cP O ?_))
    refine aF (f_ 8) ?_;refine bj 9 1 [24,25,26,27,28,29,30,31,32,8] [] aX O ?_;refine G e1 ?_;refine G e2 ?_;refine G e3 ?_;refine ax e4 ?_;refine D ?_ ?_<;>intro h
    .exact absurd (ay h) hng
    clear h;refine G e5 ?_;refine bQ 5 [44,45,46,47,48] ?_;refine G e6 ?_;refine G e7 ?_;refine H ?_;refine⟨i+1,⟨hlt,hal2⟩,J,O,O,O,congrArg I hw,O,O,?_,trivial⟩;show(_:Nat × Option Cont)=(1,some (Cont.mk 26 4 [eR (ofQ (aj (yT l A B) (i+1)))] 2));rw[hS1];rfl
   .have hRF:=hno i hlt hd hlm;rw[decide_eq_false hlm]at e5;subst hRF;generalize ofQ (iy (l.getD i dS).k)=M0 at *
    generalize sgn (dI l A B i)=sg at *
    generalize ofQ (dI l A B i)=E0 at *
    generalize ofQ (B*((l.getD i dS).x:Rat))=E1 at *
    generalize ofQ ((l.getD i dS).x:Rat)=E2 at *
    generalize l.getD i dS=x at *
    obtain⟨xx,xc,xk⟩:=x;simp only at *
    refine aJ hx ?_
    (repeat ((fail_if_success (with_reducible refine a8 6 ?_));refine cP O ?_))
    refine aF (f_ 8) ?_;refine bj 9 1 [24,25,26,27,28,29,30,31,32,8] [] aX O ?_;refine G e1 ?_;refine G e2 ?_;refine G e3 ?_;refine ax e4 ?_;refine D ?_ ?_<;>intro h
    .exact absurd (ay h) hng
    clear h;refine G e5 ?_;exact fW
  .have hng:sgn (dI l A B i)<=0:=hsl.2 (by have hd2:¬0<dI l A B i:=hd;grind);have hal2:d_ l A B (i+1):=fun k hk hp=>by
    rcases Nat.lt_or_ge k i with g|g
    .exact hal k g hp
    .obtain rfl:k=i:=J;exact absurd hp hd
   rw[Hl hd,Rat.add_zero]at hS;generalize sgn (dI l A B i)=sg at *
   generalize ofQ (dI l A B i)=E0 at *
   generalize ofQ (B*((l.getD i dS).x:Rat))=E1 at *
   generalize ofQ ((l.getD i dS).x:Rat)=E2 at *
   generalize l.getD i dS=x at *
   obtain⟨xx,xc,xk⟩:=x;simp only at *
   refine aJ hx ?_
   (repeat ((fail_if_success (with_reducible refine a8 6 ?_));refine cP O ?_))
   refine aF (f_ 8) ?_;refine bj 9 1 [24,25,26,27,28,29,30,31,32,8] [] aX O ?_;refine G e1 ?_;refine G e2 ?_;refine G e3 ?_;refine ax e4 ?_;refine D ?_ ?_<;>intro h
   .clear h;refine H ?_;refine⟨i+1,⟨hlt,hal2⟩,J,O,O,O,congrArg I hw,O,O,?_,trivial⟩;show(_:Nat × Option Cont)=(1,some (Cont.mk 26 4 [eR (ofQ (aj (yT l A B) (i+1)))] 2));rw[hS];rfl
   .exact absurd hng (aH h)
 .have hie:i=l.length:=by have:=aH h;simp only at this;omega
  clear h;subst hie;have e8:=hend2 hal;have e9:=hend hal;generalize sgn (aj (yT l A B) l.length-DM)=sg at *
  generalize ofQ (aj (yT l A B) l.length)=S0 at *
  subst e9;refine bQ 16 [49,50,51,52,53,54,55,56,57,58,59,60,61,62,63,4] ?_;refine G k3 ?_;refine G k1 ?_;refine G k2 ?_;refine G k4 ?_;refine ax e8 ?_;exact fW
theorem lr {α β:Type}(f:α->List β)(n:Nat):∀(l:List α),(∀x∈l,(f x).length<=n)->(l.flatMap f).length<=l.length*n
 |[],_=>by simp
 |x::l,h=>by
  have h1:=h x ak;have h2:=lr f n l fun y hy=>h y (by simp[hy]);rw[List.flatMap_cons,List.length_append,List.length_cons,Nat.add_mul];omega
def FX (b:BR):Prop:=∀z t,¬(bd b).Bal z t
theorem qV {b:BR}(hb:b.Ok){r:AR}(h:dY b r=true):FX b:=fun z t hz=>by
 have:=rJ hb hz r.z.val r.t.val;rw[dY]at h;rw[h]at this;cases this
inductive Said (b:BR):Prop
 |none (r:AR) (e:Int) (he:e=12\/e=13) (hr:dY b r=true) (hv:Va r r.z.val r.t.val 4 4) (hn:FX b) (h1:cV b=⟨zA,[],r,e⟩) (h2:dO b=([],e))
 |loose (z t:Rat) (hn:j5 b) (hb:(bd b).Bal z t) (hz:HQ z 24000) (ht:HQ t 20000) (h1:cV b=⟨zA,[],zA,14⟩) (h2:dO b=(FL b.l z t,0))
 |one (z t:Rat) (hn:j5 b) (hb:(bd b).Bal z t) (hz:HQ z 24000) (ht:HQ t 20000) (hu:∀z' t',(bd b).Bal z' t'->z'=z/\t'=t) (h1:cV b=⟨⟨ofQ z,ofQ t⟩,FL b.l z t,zA,0⟩) (h2:dO b=(FL b.l z t,0))
theorem Iv {b:BR}(hg:b.Good)(h0:bH b=0):Said b:=by
 obtain⟨hb,hs,-⟩:=hg.2 h0;have e1:=@O _ (cV b);have e2:=@O _ (dO b)
 conv at e1=>rhs;rw[cV,if_pos h0]
 conv at e2=>rhs;rw[dO,if_pos h0]
 by_cases h1:dY b b6=true
 .rw[if_pos h1]at e1 e2;exact .none b6 12 (.inl O) h1 nI (qV hb h1) e1 e2
 .rw[if_neg h1]at e1 e2;cases h2:(cf b.l).find? (dY b) with
  |some r =>
   rw[h2]at e1 e2;exact .none r 13 (.inr O) (List.find?_some h2) (nW hb.chkL (List.mem_of_find?_eq_some h2)) (qV hb (List.find?_some h2)) e1 e2
  |none =>
   rw[h2]at e1 e2;have hn:=my h1 h2;obtain⟨_,hbal,hz,ht⟩:=lp hb hs hn;simp only at e1 e2;cases hl:cZ b (ku b).1 (ku b).2 with
   |true =>
    rw[if_pos hl]at e1;exact .loose _ _ hn hbal hz ht e1 e2
   |false =>
    rw[if_neg (by rw[hl];decide)]at e1;exact .one _ _ hn hbal hz ht ((iV hb hbal).1 hl) e1 e2
theorem Ej {b:BR}{z t z' t':Rat}(h:∀i,i<(bd b).N->(bd b).f z' t' i=(bd b).f z t i):FL b.l z' t'=FL b.l z t:=by
 refine List.ext_getElem? fun i=>?_;by_cases hi:i<b.l.length
 .rw[te hi,te hi];exact congrArg (fun q=>some (ofQ q)) (h i hi)
 .rw[List.getElem?_eq_none (by rw[FL,List.length_map];omega),List.getElem?_eq_none (by rw[FL,List.length_map];omega)]
theorem BG {b:BR}(hb:b.Ok){z t z' t':Rat}(h:(bd b).Bal z t)(h':(bd b).Bal z' t'):FL b.l z' t'=FL b.l z t:=by
 have h1:=Bd.least_energy (fO hb) h z' t';have h2:=Bd.least_energy (fO hb) h' z t;exact Ej (h1.2 aP)
theorem xZ:Ret Tryz.prog .shared 27 [I 1] (.agg (eR (ofQ 1))):=by
 have:=bC 1 ⟨Y,Y⟩;rwa [show(((1:Int):Rat))=1 from O]at this
def gO (s:SR):List Ln:=s.k.S.map fun(n:Int)=>⟨1,(s.x:Rat),(n:Rat)-s.c.val⟩
theorem wg {l:List SR}{i:Nat}{s:SR}(h:l[i]? = some s):bL (l.take (i+1))=bL (l.take i)++gO s:=by
 rw[bG h,bL,bL,List.flatMap_append];simp[gO]
theorem wi {s:SR}{k:Nat}(h:k<s.k.S.length):(gO s).take (k+1)=(gO s).take k++[⟨1,(s.x:Rat),((s.k.S.getD k 0:Int):Rat)-s.c.val⟩]:=by
 refine bG ?_;rw[gO,List.getElem?_map,aN (d:=(0:Int)) h];rfl
theorem mr (s:SR):(gO s).length=s.k.S.length:=List.length_map _
theorem oA {l:List SR}(h8:∀s∈l,s.k.S.length<=8):(bL l).length<=l.length*8:=lr _ 8 l fun s hs=>by
 show(gO s).length<=8;rw[mr];exact h8 s hs
abbrev bB (l:List Ln):List (List PV):=l.map pZ
set_option maxRecDepth 20000 in
theorem wj {K:St->Prop}{s:St}{d g1 g02:Nat}{R1 R02:Cont}{x:Operand}{tys:Array TypeId}{ty:TypeId}{pos:String}{af:Array Edge}(l:List SR)(hl:fJ l)(hf:nC l)
  (hx:s.ev x = .sl (l.map eS)) (ho:FitO s [(1,g1,R1),(1002,g02,R02)])
  (hK:∀(s1:St) (g:Nat),K (({ reg:=s.reg,own:=(s1.over [] [(1,g1,R1),(1002,g02,R02),(1003,g,⟨164,12,bB (bL l),1⟩)]).own }:St).putR d (.als 1003 g 0 (bB (bL l)).length))) :
  Sm Tryz.prog lay.get s ⟨some d,.call ⟨.value (.func 107),#[x],tys⟩,ty,pos,af,none⟩ K:=by
 have w1:=xZ;have hml:(l.map eS).length=l.length:=ak;have h12:=hf.1;have hcl:=fun i=>oA (l:=l.take i) fun s hs=>hf.2 s (List.mem_of_mem_take hs);refine cD layOk O O Tryz.func107 O Y O O ?_;show PWP _ _ _ _ (bW s (([x]:List Operand).map s.ev++[]));rw[show(([x]:List Operand).map s.ev++([]:List PV))=[.sl (l.map eS)] by simp[hx]];rw[show bW s [.sl (l.map eS)]=bW (s.over [] [(1,g1,R1),(1002,g02,R02)]) [.sl (l.map eS)] by rw[Fit.over (l:=[]) ho]]
 ((repeat (first|refine aW ?_ | refine cw ?_ | refine bZ ?_ | refine bY ?_));refine bk ?_)
 refine iD O trivial ?_
 ((repeat (first|refine aW ?_ | refine cw ?_ | refine bZ ?_ | refine bY ?_));refine bk ?_)
 refine iD O trivial ?_
 (repeat (first|refine aW ?_ | refine bZ ?_ | refine bY ?_))
 refine aF (Ghost.nilreg (k:=1003) (t:=3) 164 12 1 O O) ?_;refine H ?_;refine b7 [(0,.sl (l.map eS)),(3,.als 1003 ((s.own 1003).1+1) 0 0),(4,I ((0:Nat):Int))] [(1,g1,R1),(1002,g02,R02),(1003,(s.own 1003).1+1,⟨164,12,[],1⟩)] ⟨O,O,O,O,O,O,trivial⟩ ?_;generalize (s.own 1003).1+1=g;intro s0;refine ar (fun x:Nat × Nat=>x.1<=l.length) (fun x=>[(0,.sl (l.map eS)),(3,.als 1003 x.2 0 (bB (bL (l.take x.1))).length),(4,I (x.1:Nat))]) (fun x=>[(1,g1,R1),(1002,g02,R02),(1003,x.2,⟨164,12,bB (bL (l.take x.1)),1⟩)]) (fun x=>l.length-x.1) (0,g) (Nat.zero_le _) ⟨O,O,O,O,O,O,trivial⟩ ?_;rintro⟨i,g⟩ s1 hi;dsimp only at hi ⊢;refine D ?_ ?_<;>intro h
 .have hlt:i<l.length:=by have:=ay h;simp only[hml]at this;omega
  clear h;have hx:=aN (d:=dS) hlt;have hs:=hl.1 _ (aM hlt);have h8:=hf.2 _ (aM hlt);have hsn:=wg hx;have hci:=hcl i;rw[List.length_take]at hci;have hw:=ej i;generalize l.getD i dS=S at *
  generalize bL (l.take i)=L0 at *
  have hmS:(S.k.S.map eN).length=S.k.S.length:=ak;have wx:=bC S.x hs.x;refine H ?_;refine b7 [(0,.sl (l.map eS)),(3,.als 1003 g 0 (bB L0).length),(4,I (i:Nat)),(5,I ((0:Nat):Int))] [(1,g1,R1),(1002,g02,R02),(1003,g,⟨164,12,bB L0,1⟩)] ⟨O,O,O,O,O,O,O,trivial⟩ ?_;intro s2;refine ar (fun x:Nat × Nat=>x.1<=S.k.S.length) (fun x=>[(0,.sl (l.map eS)),(3,.als 1003 x.2 0 (bB (L0++(gO S).take x.1)).length),(4,I (i:Nat)),(5,I (x.1:Nat))]) (fun x=>[(1,g1,R1),(1002,g02,R02),(1003,x.2,⟨164,12,bB (L0++(gO S).take x.1),1⟩)]) (fun x=>S.k.S.length-x.1) (0,g) (Nat.zero_le _) ⟨O,by rw[List.take_zero,List.append_nil];rfl,O,O,O,O,by rw[List.take_zero,List.append_nil];rfl,trivial⟩ ?_;rintro⟨k,g⟩ s3 hk;dsimp only at hk ⊢;refine aJ hx ?_;refine D ?_ ?_<;>intro h
  .have hlk:k<S.k.S.length:=by have:=ay h;simp only[hmS]at this;omega
   clear h;have hp:=aN (d:=(0:Int)) hlk;have hst:=hs.k.s _ (a_ hp);have wn:=bC _ hst;have zn:Zb (S.k.S.getD k 0):=aL hst.1 hst.2;have dl:=jp (ofQ ((S.k.S.getD k 0:Int):Rat)) S.c (hx:=Vq.ofQ (h:=HQ.int)) (hy:=hs.c.v) Y Y;have hck:=wi hlk;have hcS:=mr S;have hwk:IntKind.i64.wrap (((k:Nat):Int)+1)=((k+1:Nat):Int):=by rw[wrap_i64 J J];omega
   have hrow:bB (L0++(gO S).take (k+1))=bB (L0++(gO S).take k)++[eR (ofQ 1)++eR (ofQ (S.x:Rat))++eR (ofQ (((S.k.S.getD k 0:Int):Rat)-S.c.val))]:=by
    rw[hck,<-List.append_assoc,bB,List.map_append];rfl
   have hlen:(bB (L0++(gO S).take k)).length<=1000:=by
    rw[List.length_map,List.length_append,List.length_take];omega
   generalize bB (L0++(gO S).take k)=W at *
   refine H ?_;refine bI [48,1003] [25,26,27] aX ?_;refine G w1 ?_;refine aJ hx ?_;refine G wx ?_;refine aJ hx ?_;refine aJ hp ?_;refine G wn ?_;refine aJ hx ?_;refine G dl ?_;refine H ?_;refine ry O O O (bb 1 O O O O O O O O O O O aK O ⟨iX O,?_⟩);refine H ?_;refine ry O O O (bE 1 O O O O O O O O O O O aK (by intro row hr;first|(simp at hr;subst hr;rfl)|(simp at hr;obtain⟨_,_,rfl⟩:=hr;rfl)|simp at hr) O O aT aT ⟨iX O,?_⟩);refine H ?_;refine⟨(k+1,g+1),hlk,by simp only;omega,O,?_,O,congrArg I hwk,O,O,?_,trivial⟩
   .dsimp only;rw[hrow];rfl
   .dsimp only;rw[hrow];rfl
  .have hge:k=S.k.S.length:=by have:=aH h;simp only[hmS]at this;omega
   clear h;subst hge;have e:bB (L0++(gO S).take S.k.S.length)=bB (bL (l.take (i+1))):=by
    rw[hsn,<-mr S,List.take_length]
   rw[e];refine H ?_;exact⟨(i+1,g),hlt,by simp only;omega,O,O,congrArg I hw,O,O,O,trivial⟩
 .have hge:i=l.length:=by have:=aH h;simp only[hml]at this;omega
  subst hge;clear h;rw[List.take_length];refine H ?_;exact nL O O (hK s1 g)
def rowP (p:Nat):List PV:=[I (p:Nat)]
theorem CV {ps:List Nat}{i:Nat}(h:i<ps.length)(v:Nat):(List.replicate i 0++ps.drop i).set i v=List.replicate i 0++v::ps.drop (i+1):=by
 rw[List.set_append_right _ _ ak,List.length_replicate,Nat.sub_self,List.drop_eq_getElem_cons h];rfl
theorem Aq (ps:List Nat)(i:Nat):List.replicate i 0++0::ps.drop (i+1)=List.replicate (i+1) 0++ps.drop (i+1):=by
 rw[List.replicate_succ',List.append_assoc];rfl
theorem CT {ps:List Nat}{i:Nat}(h:i<ps.length):(List.replicate i 0++ps.drop i)[i]? = some (ps.getD i 0):=by
 rw[List.getElem?_append_right ak];simp;rw[List.getElem?_eq_getElem h];simp
theorem CU {ps:List Nat}{i:Nat}(h:i<=ps.length):(List.replicate i 0++ps.drop i).length=ps.length:=by
 rw[List.length_append,List.length_replicate,List.length_drop];omega
theorem uZ (L:List Nat)(i v:Nat):(L.map rowP).set i (rowP v)=(L.set i v).map rowP:=by rw[List.map_set]
theorem H1 {b:BR}{i:Nat}(h:i<b.l.length):(fG b).getD i 0=(b.l.getD i dS).k.S.length:=by
 rw[fG,List.getD_eq_getElem?_getD,List.getElem?_map,aN (d:=dS) h];rfl
theorem o4 (b:BR):(fG b).length=b.l.length:=List.length_map _
set_option maxRecDepth 20000 in
theorem E4 {K:St->Prop}{s:St}{d g1 g02 gE gP:Nat}{R1 R02 RE:Cont}{x y:Operand}{tys:Array TypeId}{ty:TypeId}{pos:String}{af:Array Edge}(b:BR)(hb:b.Ok)(ps:List Nat)(hn:ps.length=b.l.length)(hp:∀i,i<b.l.length->ju ps i<=(bd b).n i)
  (hx:s.ev x = .agg (eB b)) (hy:s.ev y = .als 19 gP 0 ps.length) (ho:FitO s [(1,g1,R1),(1002,g02,R02),(1003,gE,RE),(19,gP,⟨3,1,ps.map rowP,0⟩)])
  (hK:∀s1:St,K (({ reg:=s.reg,own:=(s1.over [] [(1,g1,R1),(1002,g02,R02),(1003,gE,RE),(19,gP,⟨3,1,(jd (fG b) ps).2.map rowP,0⟩)]).own }:St).putR d (.bool (jd (fG b) ps).1))) :
  Sm Tryz.prog lay.get s ⟨some d,.call ⟨.value (.func 108),#[x,y],tys⟩,ty,pos,af,none⟩ K:=by
 have h12:=hb.few.1;have h8:=hb.few.2;have hyes:=fun i=>qG (fG b) ps i (by rw[o4,hn]);have hno:=uq (fG b) ps (by rw[o4,hn]);have hnl:=o4 b;have hat:=fun i (h:i<b.l.length)=>H1 h;have hml:(b.l.map eS).length=b.l.length:=ak;refine cD layOk O O Tryz.func108 O Y O O ?_;show PWP _ _ _ _ (bW s (([x,y]:List Operand).map s.ev++[]));rw[show(([x,y]:List Operand).map s.ev++([]:List PV))=[.agg (eB b),.als 19 gP 0 ps.length] by simp[hx,hy]];rw[show bW s [.agg (eB b),.als 19 gP 0 ps.length]=bW (s.over [] [(1,g1,R1),(1002,g02,R02),(1003,gE,RE),(19,gP,⟨3,1,ps.map rowP,0⟩)]) [.agg (eB b),.als 19 gP 0 ps.length] by rw[Fit.over (l:=[]) ho]];refine H ?_;refine b7 [(1,.als 19 gP 0 ps.length),(2,.ptr 2 ((s.own 2).1+1) 0 0),(5,I ((0:Nat):Int))] [(1,g1,R1),(1002,g02,R02),(1003,gE,RE),(19,gP,⟨3,1,ps.map rowP,0⟩),(2,(s.own 2).1+1,⟨29,6,[eB b],2⟩)] ⟨O,O,O,O,O,O,O,O,trivial⟩ ?_;generalize (s.own 2).1+1=g2;intro s0;refine ar (fun i:Nat=>i<=ps.length/\∀j,j<i->¬ps.getD j 0<(fG b).getD j 0) (fun i=>[(1,.als 19 gP 0 ps.length),(2,.ptr 2 g2 0 0),(5,I (i:Nat))]) (fun i=>[(1,g1,R1),(1002,g02,R02),(1003,gE,RE),(19,gP,⟨3,1,(List.replicate i 0++ps.drop i).map rowP,0⟩),(2,g2,⟨29,6,[eB b],2⟩)]) (fun i=>ps.length-i) 0 ⟨Nat.zero_le _,fun j hj=>absurd hj J⟩ ⟨O,O,O,O,O,O,O,O,trivial⟩ ?_;rintro i s1 ⟨hi,hall⟩;refine D ?_ ?_<;>intro h
 .have hlt:i<ps.length:=by have:=ay h;omega
  clear h;have hlb:i<b.l.length:=J;have hx:=aN (d:=dS) hlb;have hS8:=h8 _ (aM hlb);have hni:=hat i hlb;have hpi:ps.getD i 0<=(b.l.getD i dS).k.S.length:=hp i hlb;have hyes:=hyes i hall J;have hg:=CT hlt;have hset:=fun v=>CV hlt v;have hz:=Aq ps i;have hPl:=CU hi;have hrow:((List.replicate i 0++ps.drop i).map rowP)[i]? = some (rowP (ps.getD i 0)):=by rw[List.getElem?_map,hg];rfl
  have hml2:((List.replicate i 0++ps.drop i).map rowP).length=ps.length:=by rw[List.length_map,hPl]
  have hw:=ej i;have hwp:IntKind.i64.wrap (((ps.getD i 0:Nat):Int)+1)=((ps.getD i 0+1:Nat):Int):=by rw[wrap_i64 J J];omega
  rw[hni]at hyes;generalize b.l.getD i dS=S at *
  have hmS:(S.k.S.map eN).length=S.k.S.length:=ak;generalize hpe:ps.getD i 0=p at *
  generalize List.replicate i 0++ps.drop i=P at *
  refine bQ 13 [12,13,14,15,16,17,18,19,20,21,22,23,24] ?_;refine H ?_;refine vQ O O O O O O O O O ?_;rw[Int.toNat_natCast,Nat.zero_add i];refine bU O O (dF O O O hrow O) ?_;refine aJ hx ?_;refine D ?_ ?_<;>intro h
  .have hlt2:p<S.k.S.length:=by have:=ay h;simp only[hmS]at this;omega
   clear h;have hyes:=hyes hlt2;rw[hyes]at hK;refine H ?_;refine vQ O O O O O O O O O ?_;rw[Int.toNat_natCast,Nat.zero_add i];refine bU O O (dF O O O hrow O) ?_;refine H ?_;rw[hwp];refine vQ O O O O O O O O O ?_;rw[Int.toNat_natCast,Nat.zero_add i];refine ca (cg (kd':=0) O O O hrow O O aK O O O O ?_);rw[show(P.map rowP).set i (j4 (rowP p) 0 ((PV.int IntKind.i64 ((p+1:Nat):Int)).cells.map (eJ 0)))=(List.replicate i 0++(p+1)::ps.drop (i+1)).map rowP by rw[<-hset,<-uZ];rfl];refine H ?_;exact oQ (K:=fun o r=>K (({ reg:=s.reg,own:=o }:St).putR d r)) [(1,g1,R1),(1002,g02,R02),(1003,gE,RE),(19,gP,⟨3,1,(List.replicate i 0++(p+1)::ps.drop (i+1)).map rowP,0⟩)] (.inl O) O O ⟨O,O,O,O,trivial⟩ hK
  .have hge:¬p<S.k.S.length:=by have:=aH h;simp only[hmS]at this;omega
   clear h;refine H ?_;refine vQ O O O O O O O O O ?_;rw[Int.toNat_natCast,Nat.zero_add i];refine ca (cg (kd':=0) O O O hrow O O aK O O O O ?_);rw[show(P.map rowP).set i (j4 (rowP p) 0 ((PV.int IntKind.i64 0).cells.map (eJ 0)))=(List.replicate (i+1) 0++ps.drop (i+1)).map rowP by rw[<-hz,<-hset,<-uZ];rfl];refine H ?_;refine⟨i+1,⟨hlt,fun j hj=>?_⟩,J,O,O,congrArg I hw,O,O,O,O,O,trivial⟩;rcases Nat.lt_or_ge j i with h2|h2
   .exact hall j h2
   .rw[show j=i by omega,hni,hpe];exact hge
 .have hge:i=ps.length:=by have:=aH h;omega
  clear h;subst hge;have hno:=hno fun j hj=>hall j J;rw[hno]at hK;have e:(List.replicate ps.length 0++ps.drop ps.length).map rowP=(List.replicate (fG b).length 0).map rowP:=by rw[List.drop_length,List.append_nil,hnl,hn]
  rw[e];refine H ?_;exact oQ (K:=fun o r=>K (({ reg:=s.reg,own:=o }:St).putR d r)) [(1,g1,R1),(1002,g02,R02),(1003,gE,RE),(19,gP,⟨3,1,(List.replicate (fG b).length 0).map rowP,0⟩)] (.inl O) O O ⟨O,O,O,O,trivial⟩ hK
section
variable (b:BR)(p:Nat->Nat)
def s_ (i:Nat):Ln:=⟨aj ((bd b).k p) i,aj (fun j=>(bd b).k p j*(bd b).X j) i,(b.w:Rat)-aj (fun j=>(bd b).k p j*(bd b).C j-(bd b).o p j) i⟩
def ta (i:Nat):Ln:=⟨aj (fun j=>(bd b).k p j*(bd b).X j) i,aj (fun j=>(bd b).k p j*(bd b).X j*(bd b).X j) i,(b.w:Rat)*b.a.val-aj (fun j=>((bd b).k p j*(bd b).C j-(bd b).o p j)*(bd b).X j) i⟩
theorem EH:s_ b p b.l.length=dH b p:=rfl
theorem EZ:ta b p b.l.length=cO b p:=rfl
end
theorem HC {b:BR}(hb:b.Ok){p:Nat->Nat}(hp:∀i,i<b.l.length->p i<=(bd b).n i){i:Nat}(hi:i<=b.l.length):LnH (s_ b p i)/\LnH (ta b p i):=by
 have h12:=hb.few.1;have zw:Zb b.w:=aL hb.lim.w.1 hb.lim.w.2;have hk:=fun j (hj:j<i)=>zY hb p (i:=j) J;have hX:=fun j (hj:j<i)=>Eh hb (i:=j) J;have ho:=fun j (hj:j<i)=>Ct hb hp (i:=j) J;have s1:=be (m:=13) i hk;have s2:=be (m:=17) i fun j hj=>@HQ.mul _ _ 13 4 (hk j hj) (hX j hj);have s3:=be (m:=21) i fun j hj=>@HQ.mul _ _ 17 4 (@HQ.mul _ _ 13 4 (hk j hj) (hX j hj)) (hX j hj);have s4:=(be (m:=327) i ho).mono (m:=4100) J;have s5:=(be (m:=331) i fun j hj=>@HQ.mul _ _ 327 4 (ho j hj) (hX j hj)).mono (m:=4100) J;exact⟨⟨s1.mono J,s2.mono J,(@HQ.sub _ _ 4 4100 (HQ.int (z:=b.w)) s4).mono Y⟩,⟨s2.mono J,s3.mono J,(@HQ.sub _ _ 17 4100 (@HQ.mul _ _ 4 13 (HQ.int (z:=b.w)) hb.lim.a.v.hq) s5).mono Y⟩⟩
theorem Eo {b:BR}{p:Nat->Nat}{i:Nat}(h:p i=0):s_ b p (i+1)=s_ b p i/\ta b p (i+1)=ta b p i:=by
 have hk:(bd b).k p i=0:=by rw[Bd.k,h];rfl
 have ho:(bd b).o p i=0:=by rw[Bd.o,h];rfl
 have e:∀f:Nat->Rat,f i=0->aj f (i+1)=aj f i:=fun f hf=>by
  show aj f i+f i=_;rw[hf];grind
 rw[s_,s_,ta,ta,e _ hk,e (fun j=>(bd b).k p j*(bd b).X j) (by rw[hk];grind),e (fun j=>(bd b).k p j*(bd b).C j-(bd b).o p j) (by rw[hk,ho];grind),e (fun j=>(bd b).k p j*(bd b).X j*(bd b).X j) (by rw[hk];grind),e (fun j=>((bd b).k p j*(bd b).C j-(bd b).o p j)*(bd b).X j) (by rw[hk,ho];grind)];exact⟨O,O⟩
theorem En {b:BR}(hb:b.Ok){p:Nat->Nat}{i q:Nat}(hi:i<b.l.length)(hq:p i=q+1)(hn:q<(b.l.getD i dS).k.S.length){k x f:Rat}(hk:(b.l.getD i dS).k.m q=k)(hx:((b.l.getD i dS).x:Rat)=x)
  (hf:cC (b.l.getD i dS).k.S.length (b.l.getD i dS).k.s (b.l.getD i dS).k.m ((b.l.getD i dS).k.s q)+k*((b.l.getD i dS).c.val-(b.l.getD i dS).k.s q)=f) :
  s_ b p (i+1)=⟨(s_ b p i).s+k,(s_ b p i).t+k*x,(s_ b p i).v-f⟩/\ta b p (i+1)=⟨(ta b p i).s+k*x,(ta b p i).t+k*(x*x),(ta b p i).v-f*x⟩:=by
 have hcrv:=(fO hb).crv i hi;have hkk:(bd b).k p i=k:=by rw[Bd.k,hq];exact hk
 have hX:(bd b).X i=x:=hx;have hv:=eH (y:=(b.l.getD i dS).k.s q) (p:=q+1) hcrv ⟨hn,fun j hj=>by cases hj;exact Rat.le_refl,fun h=>hcrv.mono_st (Nat.le_succ q) h⟩;have hff:(bd b).k p i*(bd b).C i-(bd b).o p i=f:=by
  rw[<-hf];have hv:cC (b.l.getD i dS).k.S.length (b.l.getD i dS).k.s (b.l.getD i dS).k.m ((b.l.getD i dS).k.s q)=(b.l.getD i dS).k.m q*(b.l.getD i dS).k.s q-iz (b.l.getD i dS).k.s (b.l.getD i dS).k.m (q+1):=hv;rw[hv,hkk,hk,Bd.o,hq];show k*(b.l.getD i dS).c.val-iz (b.l.getD i dS).k.s (b.l.getD i dS).k.m (q+1)=_;grind
 constructor
 .show(⟨aj ((bd b).k p) i+(bd b).k p i,aj (fun j=>(bd b).k p j*(bd b).X j) i+(bd b).k p i*(bd b).X i,(b.w:Rat)-(aj (fun j=>(bd b).k p j*(bd b).C j-(bd b).o p j) i+((bd b).k p i*(bd b).C i-(bd b).o p i))⟩:Ln)=_;rw[hff,hkk,hX];simp only[s_];congr 1;grind
 .show(⟨aj (fun j=>(bd b).k p j*(bd b).X j) i+(bd b).k p i*(bd b).X i,aj (fun j=>(bd b).k p j*(bd b).X j*(bd b).X j) i+(bd b).k p i*(bd b).X i*(bd b).X i,(b.w:Rat)*b.a.val-(aj (fun j=>((bd b).k p j*(bd b).C j-(bd b).o p j)*(bd b).X j) i+((bd b).k p i*(bd b).C i-(bd b).o p i)*(bd b).X i)⟩:Ln)=_;rw[hff,hkk,hX];simp only[ta];congr 1
  .grind
  .grind
abbrev Ht:List PV:=zN++zN++zN
set_option maxRecDepth 20000 in
theorem vX {K:St->Prop}{s:St}{d g1 g02 gE gP g3:Nat}{R1 R02 RE R3:Cont}{x y:Operand}{tys:Array TypeId}{ty:TypeId}{pos:String}{af:Array Edge}(b:BR)(hb:b.Ok)(ps:List Nat)(hn:ps.length=b.l.length)(hp:∀i,i<b.l.length->ju ps i<=(bd b).n i)
  (hx:s.ev x = .agg (eB b)) (hy:s.ev y = .als 19 gP 0 ps.length) (ho:FitO s [(1,g1,R1),(1002,g02,R02),(1003,gE,RE),(19,gP,⟨3,1,ps.map rowP,0⟩),(3,g3,R3)])
  (hK:∀s1:St,K (({ reg:=s.reg,own:=(s1.over [] [(1,g1,R1),(1002,g02,R02),(1003,gE,RE),(19,gP,⟨3,1,ps.map rowP,0⟩),(3,g3,R3)]).own }:St).putR d (.tup [.agg (pZ (dH b (ju ps))),.agg (pZ (cO b (ju ps)))]))) :
  Sm Tryz.prog lay.get s ⟨some d,.call ⟨.value (.func 167),#[x,y],tys⟩,ty,pos,af,none⟩ K:=by
 have h12:=hb.few.1;have w0:=gL;have ww:=bC b.w hb.lim.w;have zw:Zb b.w:=aL hb.lim.w.1 hb.lim.w.2;have wa:=cN (ofQ (b.w:Rat)) b.a (hx:=Vq.ofQ (h:=HQ.int)) (hy:=hb.lim.a.v) Y Y;have hml:(b.l.map eS).length=b.l.length:=ak;have hat:=fun i (hi:i<=b.l.length)=>HC hb hp hi;have f0:s_ b (ju ps) 0=⟨0,0,(b.w:Rat)⟩:=by
  rw[s_];congr 1;show(b.w:Rat)-0=_;grind
 have m0:ta b (ju ps) 0=⟨0,0,(b.w:Rat)*b.a.val⟩:=by
  rw[ta];congr 1;show(b.w:Rat)*b.a.val-0=_;grind
 refine cD layOk O O Tryz.func167 O Y O O ?_;show PWP _ _ _ _ (bW s (([x,y]:List Operand).map s.ev++[]));rw[show(([x,y]:List Operand).map s.ev++([]:List PV))=[.agg (eB b),.als 19 gP 0 ps.length] by simp[hx,hy]];rw[show bW s [.agg (eB b),.als 19 gP 0 ps.length]=bW (s.over [] [(1,g1,R1),(1002,g02,R02),(1003,gE,RE),(19,gP,⟨3,1,ps.map rowP,0⟩),(3,g3,R3)]) [.agg (eB b),.als 19 gP 0 ps.length] by rw[Fit.over (l:=[]) ho]];refine G ww ?_;refine H ?_;refine b7 [(1,.als 19 gP 0 ps.length),(2,.ptr 2 ((s.own 2).1+1) 0 0),(4,.ptr 4 ((s.own 4).1+1) 0 0),(5,.ptr 5 ((s.own 5).1+1) 0 0),(6,.ptr 6 ((s.own 6).1+1) 0 0)] [(1,g1,R1),(1002,g02,R02),(1003,gE,RE),(19,gP,⟨3,1,ps.map rowP,0⟩),(3,g3,R3),(2,(s.own 2).1+1,⟨29,6,[eB b],2⟩),(4,(s.own 4).1+1,⟨164,12,[Ht],2⟩),(5,(s.own 5).1+1,⟨164,12,[Ht],2⟩),(6,(s.own 6).1+1,⟨26,4,[eR (ofQ (b.w:Rat))],2⟩)] ⟨O,O,O,O,O,O,O,O,O,O,O,O,O,O,trivial⟩ ?_;generalize (s.own 2).1+1=g2;generalize (s.own 4).1+1=g4;generalize (s.own 5).1+1=g5;generalize (s.own 6).1+1=g6;intro s0;refine aF (f_ 7) ?_;refine bj 4 1 [19,20,21,22,7] [] aX O ?_;refine G w0 ?_;refine G w0 ?_;refine H ?_
 (repeat (first|refine aW ?_ | refine bZ ?_ | refine bY ?_))
 refine aF (f_ 8) ?_;refine bj 7 1 [23,24,25,26,27,28,29,8] [] aX O ?_;refine G w0 ?_;refine G w0 ?_;refine G wa ?_;refine H ?_;refine b7 [(1,.als 19 gP 0 ps.length),(2,.ptr 2 g2 0 0),(4,.ptr 4 g4 0 0),(5,.ptr 5 g5 0 0),(7,.ptr 7 ((s0.own 7).1+2+1) 0 0),(8,.ptr 8 ((s0.own 8).1+2+1) 0 0),(9,I ((0:Nat):Nat))] [(1,g1,R1),(1002,g02,R02),(1003,gE,RE),(19,gP,⟨3,1,ps.map rowP,0⟩),(3,g3,R3),(2,g2,⟨29,6,[eB b],2⟩),(4,g4,⟨164,12,[Ht],2⟩),(5,g5,⟨164,12,[Ht],2⟩),(7,(s0.own 7).1+2+1,⟨164,12,[pZ ⟨0,0,(b.w:Rat)⟩],2⟩),(8,(s0.own 8).1+2+1,⟨164,12,[pZ ⟨0,0,(b.w:Rat)*b.a.val⟩],2⟩)] ⟨O,O,O,O,O,O,O,O,O,O,O,O,O,O,O,O,O,trivial⟩ ?_;generalize (s0.own 7).1+2+1=g7;generalize (s0.own 8).1+2+1=g8;intro s1;refine ar (fun i:Nat=>i<=ps.length) (fun i=>[(1,.als 19 gP 0 ps.length),(2,.ptr 2 g2 0 0),(4,.ptr 4 g4 0 0),(5,.ptr 5 g5 0 0),(7,.ptr 7 g7 0 0),(8,.ptr 8 g8 0 0),(9,I (i:Nat))]) (fun i=>[(1,g1,R1),(1002,g02,R02),(1003,gE,RE),(19,gP,⟨3,1,ps.map rowP,0⟩),(3,g3,R3),(2,g2,⟨29,6,[eB b],2⟩),(4,g4,⟨164,12,[Ht],2⟩),(5,g5,⟨164,12,[Ht],2⟩),(7,g7,⟨164,12,[pZ (s_ b (ju ps) i)],2⟩),(8,g8,⟨164,12,[pZ (ta b (ju ps) i)],2⟩)]) (fun i=>ps.length-i) 0 (Nat.zero_le _) ⟨O,O,O,O,O,O,O,O,O,O,O,O,O,O,O,by rw[f0];rfl,by rw[m0];rfl,trivial⟩ ?_;intro i s2 hi;refine D ?_ ?_<;>intro h
 .have hlt:i<ps.length:=by have:=ay h;omega
  clear h;have hlb:i<b.l.length:=J;have hrow:(ps.map rowP)[i]? = some (rowP (ps.getD i 0)):=by rw[List.getElem?_map,aN (d:=(0:Nat)) hlt];rfl
  have hpi:ps.getD i 0<=(b.l.getD i dS).k.S.length:=hp i hlb;have hw:=ej i;have hzero:=Eo (b:=b) (p:=ju ps) (i:=i);have hnext:=fun q=>En hb (p:=ju ps) (q:=q) hlb;obtain⟨hF,hM⟩:=hat i J;rw[show ju ps i=ps.getD i 0 from O]at hzero hnext;have hx:=aN (d:=dS) hlb;have hs:=hb.lim.l.1 _ (aM hlb);have hc0:=b5 hb.chkL _ (aM hlb);have h8:=hb.few.2 _ (aM hlb);generalize hp0:ps.getD i 0=p at *
  generalize b.l.getD i dS=S at *
  refine H ?_;refine vQ O O O O O O O O O ?_;rw[Int.toNat_natCast,Nat.zero_add i];refine bU O O (dF O O O hrow O) ?_;refine D ?_ ?_<;>intro h
  .have hz:p=0:=by have:=ay h;omega
   clear h;obtain⟨e1,e2⟩:=hzero hz;refine H ?_;refine⟨i+1,hlt,J,O,O,O,O,O,O,congrArg I hw,O,O,O,O,O,O,O,O,?_,?_,trivial⟩
   .rw[e1];rfl
   .rw[e2];rfl
  .have hz:¬p=0:=by have:=aH h;omega
   clear h;obtain⟨q,rfl⟩:∃q,p=q+1:=⟨p-1,J⟩;have hwq:IntKind.i64.wrap (((q+1:Nat):Int)-1)=(q:Nat):=by rw[wrap_i64 J J];omega
   obtain⟨-,hSM,-,-⟩:=ct hc0;have hqm:q<S.k.M.length:=J;have hqs:q<S.k.S.length:=J;have hm:=aN (d:=RR.zero) hqm;have hst:=aN (d:=(0:Int)) hqs;have hsz:=hs.k.s _ (a_ hst);obtain⟨n1,n2⟩:=hnext q O hqs O O O;have kv:=sa S.k hs.k q;have zx:Zb S.x:=aL hs.x.1 hs.x.2;have wx:=bC S.x hs.x;have wn:=bC _ hsz;have zn:Zb (S.k.S.getD q 0):=aL hsz.1 hsz.2;have est:S.k.s q=((S.k.S.getD q 0:Int):Rat):=O;rw[est]at n1 n2;generalize hn0:S.k.S.getD q 0=n at *
   generalize hk0:S.k.m q=k at *
   have hval:HQ (cC S.k.S.length S.k.s S.k.m (n:Rat)) 1000:=(be S.k.S.length fun j _=>sB hs.k (HQ.int (z:=n)) j).mono J;have cF:=kN S.k hs.k hc0 (ofQ (n:Rat)) (hy:=Vq.ofQ (h:=HQ.int)) Y;have hd1:HQ (S.c.val-(n:Rat)) 18:=@HQ.sub _ _ 13 4 hs.c.v.hq (HQ.int (z:=n));have d1:=jp S.c (ofQ (n:Rat)) (hx:=hs.c.v) (hy:=Vq.ofQ (h:=HQ.int)) Y Y;have d2:=cN (S.k.M.getD q RR.zero) (ofQ (S.c.val-(n:Rat))) (hx:=kv) (hy:=Vq.ofQ (h:=hd1)) Y Y;have hkh:HQ k 13:=kv.hq;have hd2:HQ (k*(S.c.val-(n:Rat))) 31:=@HQ.mul _ _ 13 18 hkh hd1;have d3:=dM (ofQ (cC S.k.S.length S.k.s S.k.m (n:Rat))) (ofQ (k*(S.c.val-(n:Rat)))) (hx:=Vq.ofQ (h:=hval)) (hy:=Vq.ofQ (h:=hd2)) Y Y;have hf:HQ (cC S.k.S.length S.k.s S.k.m (n:Rat)+k*(S.c.val-(n:Rat))) 1032:=@HQ.add _ _ 1000 31 hval hd2;generalize cC S.k.S.length S.k.s S.k.m (n:Rat)+k*(S.c.val-(n:Rat))=f at *
   have hxh:HQ (S.x:Rat) 4:=HQ.int;have e1:=dM (ofQ (s_ b (ju ps) i).s) (S.k.M.getD q RR.zero) (hx:=Vq.ofQ (h:=hF.s)) (hy:=kv) Y Y;have e2:=cN (S.k.M.getD q RR.zero) (ofQ (S.x:Rat)) (hx:=kv) (hy:=Vq.ofQ (h:=hxh)) Y Y;have e3:=dM (ofQ (s_ b (ju ps) i).t) (ofQ (k*(S.x:Rat))) (hx:=Vq.ofQ (h:=hF.t)) (hy:=Vq.ofQ (h:=@HQ.mul _ _ 13 4 hkh hxh)) Y Y;have e4:=jp (ofQ (s_ b (ju ps) i).v) (ofQ f) (hx:=Vq.ofQ (h:=hF.v)) (hy:=Vq.ofQ (h:=hf)) Y Y;have e5:=dM (ofQ (ta b (ju ps) i).s) (ofQ (k*(S.x:Rat))) (hx:=Vq.ofQ (h:=hM.s)) (hy:=Vq.ofQ (h:=@HQ.mul _ _ 13 4 hkh hxh)) Y Y;have e6:=cN (ofQ (S.x:Rat)) (ofQ (S.x:Rat)) (hx:=Vq.ofQ (h:=hxh)) (hy:=Vq.ofQ (h:=hxh)) Y Y;have e7:=cN (S.k.M.getD q RR.zero) (ofQ ((S.x:Rat)*(S.x:Rat))) (hx:=kv) (hy:=Vq.ofQ (h:=@HQ.mul _ _ 4 4 hxh hxh)) Y Y;have e8:=dM (ofQ (ta b (ju ps) i).t) (ofQ (k*((S.x:Rat)*(S.x:Rat)))) (hx:=Vq.ofQ (h:=hM.t)) (hy:=Vq.ofQ (h:=@HQ.mul _ _ 13 8 hkh (@HQ.mul _ _ 4 4 hxh hxh))) Y Y;have e9:=cN (ofQ f) (ofQ (S.x:Rat)) (hx:=Vq.ofQ (h:=hf)) (hy:=Vq.ofQ (h:=hxh)) Y Y;have e10:=jp (ofQ (ta b (ju ps) i).v) (ofQ (f*(S.x:Rat))) (hx:=Vq.ofQ (h:=hM.v)) (hy:=Vq.ofQ (h:=@HQ.mul _ _ 1032 4 hf hxh)) Y Y;generalize hF0:s_ b (ju ps) i=F at *
   generalize hM0:ta b (ju ps) i=M at *
   clear hzero hnext hat hF hM kv zx zn hval hd1 hkh hd2 hf hxh hs hc0;refine H ?_;refine dW [(10,10),(11,10)] aX aX ?_;refine aJ hx ?_;refine H ?_;refine vQ O O O O O O O O O ?_;rw[Int.toNat_natCast,Nat.zero_add i];refine bU O O (dF O O O hrow O) ?_;refine H ?_;rw[hwq];refine Bm O O O O O ?_;refine Bn 2 O O O O O O (fun _=>rfl) aK O O O O ?_;refine H ?_;refine dW [(9,12),(10,13),(11,12),(12,13)] aX aX ?_;refine aJ hm ?_;refine G wx ?_;refine H ?_;refine Bm O O O O O ?_;refine Bm O O O O O ?_;refine Bn 2 O O O O O O (fun _=>rfl) aK O O O O ?_;refine Bn 2 O O O O O O (fun _=>rfl) aK O O O O ?_;refine aJ hst ?_;refine G wn ?_;refine H ?_;refine dW [(11,15),(12,15)] aX aX ?_;refine G cF ?_;refine G d1 ?_;refine G d2 ?_;refine G d3 ?_;refine H ?_;refine Bm O O O O O ?_;refine Bn 2 O O O O O O (fun _=>rfl) aK O O O O ?_;refine bQ 15 [78,79,80,81,82,83,84,85,86,87,88,89,90,91,92] ?_;refine G e1 ?_;refine G e2 ?_;refine G e3 ?_;refine G e4 ?_;refine bQ 21 [93,94,95,96,97,98,99,100,101,102,103,104,105,106,107,108,109,110,111,112,113] ?_;refine G e2 ?_;refine G e5 ?_;refine G e6 ?_;refine G e7 ?_;refine G e8 ?_;refine G e9 ?_;refine G e10 ?_;refine H ?_;refine⟨i+1,hlt,J,O,O,O,O,O,O,congrArg I hw,O,O,O,O,O,O,O,O,?_,?_,trivial⟩
   .rw[n1];rfl
   .rw[n2];rfl
 .have hge:i=ps.length:=by have:=aH h;omega
  clear h;subst hge;rw[hn,EH,EZ];generalize dH b (ju ps)=F at *
  generalize cO b (ju ps)=M at *
  refine H ?_;refine bI [4,5] [2,3] aX ?_;refine H ?_;exact Cq (K:=fun o r=>K (({ reg:=s.reg,own:=o }:St).putR d r)) [(1,g1,R1),(1002,g02,R02),(1003,gE,RE),(19,gP,⟨3,1,ps.map rowP,0⟩),(3,g3,R3)] O aK O ⟨O,O,O,O,O,trivial⟩ hK
theorem nM {a c:Ln}(ha:LnH a)(hc:LnH c):Ret Tryz.prog .shared 111 [.agg (pZ a),.agg (pZ c)] (.tup [.agg (eA (Iq (Bd.cross a c))),.bool (Bd.cross a c).isSome]):=by
 have v:∀ {q:Rat} {n:Nat},HQ q n->n<=4200->Vq (ofQ q) q 4200:=fun h hn=>Vq.ofQ (h:=h.mono hn);have h:=AB _ _ _ _ _ _ (v ha.s Y) (v ha.t Y) (v ha.v Y) (v hc.s Y) (v hc.t Y) (v hc.v Y) Y;have e:yr a.s a.t a.v c.s c.t c.v=Bd.cross a c:=O;rw[e]at h;cases hx:Bd.cross a c with
 |none=>rw[hx]at h;exact h.weak (WeakL.refl _) (WeakL.tup (.cons gY.agg (WeakL.refl _)))
 |some p=>rw[hx]at h;exact h
theorem uK {P:Program}{L:Lay}{ops:Array Oper}{K:St->Prop}{f i j k:Nat}{o o2 o3:Oper}{listed:Array Bool}{s:St}(hr:Region.ready .any ops listed=[i,j,k])(ho:ops[i]? = some o)(ho2:ops[j]? = some o2)(ho3:ops[k]? = some o3)
  (h:PSem P L ops (PTree P L ops K f (listed.setIfInBounds i true)) [o] s) (h2:PSem P L ops (PTree P L ops K f (listed.setIfInBounds j true)) [o2] s) (h3:PSem P L ops (PTree P L ops K f (listed.setIfInBounds k true)) [o3] s):PTree P L ops K (f+1) listed s :=
 ⟨fun e=>(by rw[e]at hr;cases hr),fun q hq=>by
  rw[hr]at hq;simp at hq;rcases hq with rfl|rfl|rfl
  .exact⟨o,ho,h⟩
  .exact⟨o2,ho2,h2⟩
  .exact⟨o3,ho3,h3⟩⟩
def eP (a:Rat × Rat):List PV:=eA ⟨ofQ a.1,ofQ a.2⟩
theorem Ec {F M e:Ln}{l:List Ln}{i:Nat}(h:l[i]? = some e):(l.take (i+1)).flatMap (lY F M)=(l.take i).flatMap (lY F M)++(Bd.cross F e).toList++(Bd.cross M e).toList:=by
 rw[bG h,List.flatMap_append];simp[lY]
theorem so {α:Type}(o:Option α):o.toList.length<=1:=by cases o<;>simp
theorem vG (F M:Ln)(l:List Ln):(l.flatMap (lY F M)).length<=l.length*2:=lr _ 2 l fun e _=>by
 rw[lY,List.length_append];have:=so (Bd.cross F e);have:=so (Bd.cross M e);omega
set_option maxRecDepth 20000 in
theorem pV {K:St->Prop}{s:St}{d g1 g02 gE gP:Nat}{R1 R02:Cont}{x y v:Operand}{tys:Array TypeId}{ty:TypeId}{pos:String}{af:Array Edge}(b:BR)(hb:b.Ok)(ps:List Nat)(hn:ps.length=b.l.length)(hp:∀i,i<b.l.length->ju ps i<=(bd b).n i)
  (E:List Ln) (hE:∀e∈E,LnH e) (hEl:E.length<=1000)
  (hx:s.ev x = .agg (eB b)) (hy:s.ev y = .als 19 gP 0 ps.length) (hv:s.ev v = .als 1003 gE 0 (bB E).length) (ho:FitO s [(1,g1,R1),(1002,g02,R02),(1003,gE,⟨164,12,bB E,1⟩),(19,gP,⟨3,1,ps.map rowP,0⟩)])
  (hK:∀s1:St,K (({ reg:=s.reg,own:=(s1.over [] [(1,g1,R1),(1002,g02,R02),(1003,gE,⟨164,12,bB E,1⟩),(19,gP,⟨3,1,ps.map rowP,0⟩)]).own }:St).putR d (.sl ((gM (dH b (ju ps)) (cO b (ju ps)) E).map eP)))) :
  Sm Tryz.prog lay.get s ⟨some d,.call ⟨.value (.func 109),#[x,y,v],tys⟩,ty,pos,af,none⟩ K:=by
 have h12:=hb.few.1;have w0:=gL;have w1:=xZ;have hF:=ym hb hp;have hM:=un hb hp;have mm:=nM hF hM;refine cD layOk O O Tryz.func109 O Y O O ?_;show PWP _ _ _ _ (bW s (([x,y,v]:List Operand).map s.ev++[]));rw[show(([x,y,v]:List Operand).map s.ev++([]:List PV))=[.agg (eB b),.als 19 gP 0 ps.length,.als 1003 gE 0 (bB E).length] by simp[hx,hy,hv]];rw[show bW s [.agg (eB b),.als 19 gP 0 ps.length,.als 1003 gE 0 (bB E).length]=bW (s.over [] [(1,g1,R1),(1002,g02,R02),(1003,gE,⟨164,12,bB E,1⟩),(19,gP,⟨3,1,ps.map rowP,0⟩)]) [.agg (eB b),.als 19 gP 0 ps.length,.als 1003 gE 0 (bB E).length] by rw[Fit.over (l:=[]) ho]]
 ((repeat ((fail_if_success (with_reducible refine a8 2 ?_));refine cP O ?_));refine aQ 2 ?_)
 iterate 2 refine fH O ?_
 refine aW ?_;refine bg O (vX (g1:=g1) (g02:=g02) (gE:=gE) (gP:=gP) b hb ps hn hp O O ⟨O,O,O,O,O,trivial⟩ fun s1=>?_);refine aU ?_;generalize dH b (ju ps)=F at *
 generalize cO b (ju ps)=M at *
 cases hc:Bd.cross F M with
 |some a =>
  have ec:gM F M E=[a]:=by rw[gM,hc]
  rw[ec]at hK;rw[hc]at mm;refine G mm ?_
  (repeat ((fail_if_success (with_reducible refine a8 5 ?_));refine cP O ?_))
  refine aF (Ghost.nilreg (k:=1007) (t:=7) 33 8 1 O O) ?_;refine H ?_;refine aB (bb 1 O O O O O O O O O O O aK O ?_);refine H ?_;refine aB (bE 1 O O O O O O O O O O O aK (by intro row hr;simp at hr;subst hr;rfl) O O ak ak ?_)
  (repeat ((fail_if_success (with_reducible refine fa ?_));refine cP O ?_))
  refine aF (Ghost.takeD (k:=1007) (t:=6) O O O) ?_;refine H ?_;exact oQ (K:=fun o r=>K (({ reg:=s.reg,own:=o }:St).putR d r)) [(1,g1,R1),(1002,g02,R02),(1003,gE,⟨164,12,bB E,1⟩),(19,gP,⟨3,1,ps.map rowP,0⟩)] (.inl O) O O ⟨O,O,O,O,trivial⟩ hK
 |none =>
  rw[hc]at mm;have ec:gM F M E=(E++[Bd.flat]).flatMap (lY F M):=by rw[gM,hc]
  rw[ec]at hK;refine G mm ?_;refine G w0 ?_;refine G w1 ?_;refine G w0 ?_;refine H ?_
  (repeat (first|refine aW ?_ | refine bZ ?_ | refine bY ?_))
  refine uM (fun _:Nat × Nat × Nat=>True) (fun q=>[(2,.als 39 q.1 0 ([]++bB E++[pZ Bd.flat]).length),(7,.nil),(8,.ptr 8 q.2.1 0 0),(9,.ptr 9 q.2.2 0 0)]) (fun q=>[(1,g1,R1),(1002,g02,R02),(1003,gE,⟨164,12,bB E,1⟩),(19,gP,⟨3,1,ps.map rowP,0⟩),(39,q.1,⟨164,12,[]++bB E++[pZ Bd.flat],1⟩),(8,q.2.1,⟨164,12,[pZ F],2⟩),(9,q.2.2,⟨164,12,[pZ M],2⟩)]) ?_ (fun q _ s2=>?_)
  .refine yN ?_;iterate 7 all_goals ((first
    |refine ef (i:=0) aX rfl ?_
    |refine ef (i:=1) aX rfl ?_
    |refine ef (i:=2) aX rfl ?_
    |refine ef (i:=3) aX rfl ?_
    |refine ef (i:=4) aX rfl ?_
    |refine ef (i:=5) aX rfl ?_
    |refine ef (i:=6) aX rfl ?_
    |refine i2 (i:=0) (j:=1) aX rfl rfl ?_ ?_
    |refine i2 (i:=0) (j:=3) aX rfl rfl ?_ ?_
    |refine i2 (i:=1) (j:=3) aX rfl rfl ?_ ?_
    |refine i2 (i:=0) (j:=4) aX rfl rfl ?_ ?_
    |refine i2 (i:=1) (j:=4) aX rfl rfl ?_ ?_
    |refine i2 (i:=2) (j:=3) aX rfl rfl ?_ ?_
    |refine i2 (i:=2) (j:=4) aX rfl rfl ?_ ?_
    |refine uK (i:=0) (j:=1) (k:=3) aX rfl rfl rfl ?_ ?_ ?_
    |refine uK (i:=0) (j:=1) (k:=4) aX rfl rfl rfl ?_ ?_ ?_
    )<;>(refine aU ?_;(first|refine fH O ?_ | refine aB (bb 1 O O O O O O O O O O O aK O ?_)|refine aB (bE 1 O O O O O O O O O O O aK (by intro row hr;first|(simp at hr;subst hr;rfl)|(simp at hr;obtain⟨_,_,rfl⟩:=hr;rfl)) O O aT aT ?_));refine aW ?_))
   all_goals (refine⟨by decide +kernel,bZ ?_⟩;exact⟨(_,_,_),trivial,O,O,O,O,O,O,O,O,O,O,O,trivial⟩)
  rw[show []++bB E++[pZ Bd.flat]=bB (E++[Bd.flat]) by simp[bB]];obtain⟨g39,g8,g9⟩:=q;dsimp only;have hE2:∀e∈E++[Bd.flat],LnH e:=fun e he=>by
   rcases List.mem_append.1 he with he|he
   .exact hE e he
   .rw[List.mem_singleton.1 he];exact rY
  have hEl2:(E++[Bd.flat]).length<=1001:=by rw[List.length_append];simp;omega
  generalize E++[Bd.flat]=E' at *
  have hmE:(bB E').length=E'.length:=List.length_map _;refine aF (Ghost.takeD (k:=39) (t:=2) O O O) ?_;refine aF (Ghost.nilreg (k:=1007) (t:=7) 33 8 1 O O) ?_;refine H ?_;refine b7 [(2,.sl (bB E')),(7,.als 1007 ((s2.own 1007).1+1) 0 (([]:List (Rat × Rat)).map eP).length),(8,.ptr 8 g8 0 0),(9,.ptr 9 g9 0 0),(13,I ((0:Nat):Nat))] [(1,g1,R1),(1002,g02,R02),(1003,gE,⟨164,12,bB E,1⟩),(19,gP,⟨3,1,ps.map rowP,0⟩),(8,g8,⟨164,12,[pZ F],2⟩),(9,g9,⟨164,12,[pZ M],2⟩),(1007,(s2.own 1007).1+1,⟨33,8,([]:List (Rat × Rat)).map eP,1⟩)] ⟨O,O,O,O,O,O,O,O,O,O,O,O,trivial⟩ ?_;generalize (s2.own 1007).1+1=g;intro s3;refine ar (fun q:Nat × Nat=>q.1<=E'.length) (fun q=>[(2,.sl (bB E')),(7,.als 1007 q.2 0 (((E'.take q.1).flatMap (lY F M)).map eP).length),(8,.ptr 8 g8 0 0),(9,.ptr 9 g9 0 0),(13,I (q.1:Nat))]) (fun q=>[(1,g1,R1),(1002,g02,R02),(1003,gE,⟨164,12,bB E,1⟩),(19,gP,⟨3,1,ps.map rowP,0⟩),(8,g8,⟨164,12,[pZ F],2⟩),(9,g9,⟨164,12,[pZ M],2⟩),(1007,q.2,⟨33,8,((E'.take q.1).flatMap (lY F M)).map eP,1⟩)]) (fun q=>E'.length-q.1) (0,g) (Nat.zero_le _) ⟨O,O,O,O,O,O,O,O,O,O,O,O,trivial⟩ ?_;rintro⟨i,g⟩ s4 hi;dsimp only at hi ⊢;refine D ?_ ?_<;>intro h
  .have hlt:i<E'.length:=by have:=ay h;simp only[hmE]at this;omega
   clear h;obtain⟨e,he⟩:=aO hlt;have heh:=hE2 e (a_ he);have m1:=nM hF heh;have m2:=nM hM heh;have hsn:=Ec (F:=F) (M:=M) he;have hL:((E'.take i).flatMap (lY F M)).length<=2002:=by
    have:=vG F M (E'.take i);rw[List.length_take]at this;omega
   have hw:=ej i;generalize (E'.take i).flatMap (lY F M)=L at *
   generalize Bd.cross F e=o1 at *
   generalize Bd.cross M e=o2 at *
   refine H ?_;refine dW [(9,14),(10,14)] aX aX ?_;refine aJ he ?_;refine G m1 ?_;refine H ?_;refine Bm O O O O O ?_;refine Bn 2 O O O O O O (fun _=>rfl) aK O O O O ?_;refine H ?_;refine uM (fun _:Nat=>True) (fun g'=>[(2,.sl (bB E')),(7,.als 1007 g' 0 ((L++o1.toList).map eP).length),(8,.ptr 8 g8 0 0),(9,.ptr 9 g9 0 0),(13,I (i:Nat))]) (fun g'=>[(1,g1,R1),(1002,g02,R02),(1003,gE,⟨164,12,bB E,1⟩),(19,gP,⟨3,1,ps.map rowP,0⟩),(8,g8,⟨164,12,[pZ F],2⟩),(9,g9,⟨164,12,[pZ M],2⟩),(1007,g',⟨33,8,(L++o1.toList).map eP,1⟩)]) ?_ (fun g' _ s5=>?_)
   .refine bS O ?_ ?_<;>intro h
    .cases o1 with
     |none=>cases h
     |some a =>
      clear h;have hr:(L++(some a).toList).map eP=L.map eP++[eP a]:=ak;rw[hr];refine H ?_;refine aB (bb 1 O O O O O O O O O O O aK O ?_);refine H ?_;refine aB (bE 1 O O O O O O O O O O O aK (by intro row hr;first|(simp at hr;subst hr;rfl)|simp at hr) O O aT aT ?_);refine H ?_;exact⟨g+1,trivial,O,O,O,O,O,O,O,O,O,O,O,O,trivial⟩
    .cases o1 with
     |some a=>cases h
     |none =>
      clear h;have hr:(L++(none:Option (Rat × Rat)).toList).map eP=L.map eP:=ak;rw[hr];refine H ?_;exact⟨g,trivial,O,O,O,O,O,O,O,O,O,O,O,O,trivial⟩
   have hL2:(L++o1.toList).length<=2003:=by
    have:=so o1;rw[List.length_append];omega
   generalize L++o1.toList=L2 at *
   refine H ?_;refine dW [(9,16),(10,16)] aX aX ?_;refine aJ he ?_;refine G m2 ?_;refine H ?_;refine Bm O O O O O ?_;refine Bn 2 O O O O O O (fun _=>rfl) aK O O O O ?_;refine D ?_ ?_<;>intro h
   .cases o2 with
    |none=>cases h
    |some a =>
     clear h;have hr:((E'.take (i+1)).flatMap (lY F M)).map eP=L2.map eP++[eP a]:=by rw[hsn];simp
     refine H ?_;refine aB (bb 1 O O O O O O O O O O O aK O ?_);refine H ?_;refine aB (bE 1 O O O O O O O O O O O aK (by intro row hr;first|(simp at hr;subst hr;rfl)|simp at hr) O O aT aT ?_);refine H ?_;refine⟨(i+1,g'+1),hlt,by simp only;omega,O,?_,O,O,congrArg I hw,O,O,O,O,O,O,?_,trivial⟩
     .dsimp only;rw[hr];rfl
     .dsimp only;rw[hr];rfl
   .cases o2 with
    |some a=>cases h
    |none =>
     clear h;have hr:((E'.take (i+1)).flatMap (lY F M)).map eP=L2.map eP:=by rw[hsn];simp
     refine H ?_;refine⟨(i+1,g'),hlt,by simp only;omega,O,?_,O,O,congrArg I hw,O,O,O,O,O,O,?_,trivial⟩
     .dsimp only;rw[hr];rfl
     .dsimp only;rw[hr];rfl
  .have hge:i=E'.length:=by have:=aH h;simp only[hmE]at this;omega
   clear h;subst hge;rw[List.take_length]
   (repeat ((fail_if_success (with_reducible refine fa ?_));refine cP O ?_))
   refine aF (Ghost.takeD (k:=1007) (t:=6) O O O) ?_;refine H ?_;exact oQ (K:=fun o r=>K (({ reg:=s.reg,own:=o }:St).putR d r)) [(1,g1,R1),(1002,g02,R02),(1003,gE,⟨164,12,bB E,1⟩),(19,gP,⟨3,1,ps.map rowP,0⟩)] (.inl O) O O ⟨O,O,O,O,trivial⟩ hK
theorem yj {α:Type}(p:α->Bool)(f:Nat->List α){n k:Nat}{a:α}(hk:k<n)(h1:∀k',k'<k->∀x∈f k',p x=false)(h:(f k).find? p=some a):((List.range n).flatMap f).find? p=some a:=by
 have n1:((List.range k).flatMap f).find? p=none:=rX p f h1;rw[uP hk,List.flatMap_append,List.flatMap_cons,List.find?_append,List.find?_append,n1,h];rfl
theorem BF {b:BR}(hb:b.Ok){a:Rat × Rat}(h:HQ a.1 12000/\HQ a.2 12000):Ret Tryz.prog .shared 110 [.agg (eB b),.agg (eP a)] (.bool (f7 b a)):=Dg b hb ⟨ofQ a.1,ofQ a.2⟩ (ha:=⟨Vq.ofQ (h:=h.1),Vq.ofQ (h:=h.2)⟩) Y
theorem BQ (F M:Ln)(E:List Ln):(gM F M E).length<=(E.length+1)*2:=by
 rw[gM];split
 .simp;omega
 .have:=vG F M (E++[Bd.flat]);rw[List.length_append]at this;exact this
theorem wU (ns:List Nat):(dL ns 0).map rowP=List.replicate ns.length [I (0:Nat)]:=by
 rw[qN,List.map_replicate];rfl
def jB (ns:List Nat)(k:Nat):List Nat:=dL ns (if k<cn ns then k else 0)
theorem AZ {ns:List Nat}{k:Nat}(h:k<cn ns):jd ns (dL ns k)=(decide (k+1<cn ns),jB ns (k+1)):=by
 rw[qH ns k h,jB];by_cases h2:k+1<cn ns
 .rw[if_pos h2,if_pos h2,decide_eq_true h2]
 .rw[if_neg h2,if_neg h2,decide_eq_false h2]
set_option maxRecDepth 20000 in
theorem xA (b:BR)(hb:b.Ok){a:Rat × Rat}(ha:iK b=some a):Ret Tryz.prog .shared 50 [.agg (eB b)] (.tup [.agg (eP a),.bool true]):=by
 have w0:=gL;have w1:=xZ;have h12:=hb.few.1;have hlim:=hb.lim.l;have hfew:=hb.few;have hml:(b.l.map eS).length=b.l.length:=ak;have hcl:=oA hfew.2;have hE:∀e∈bL b.l,LnH e:=fun e he=>oz hlim he;have hP0:=qQ (fG b);have hfind:∀k i c,k<cn (fG b)->(∀k',k'<k->∀x∈eQ b k',f7 b x=false)->(eQ b k)[i]? = some c->(∀j,j<i->∀x,(eQ b k)[j]? = some x->f7 b x=false)->f7 b c=true->c=a:=fun k i c hk g1 g2 g3 g4=>by
  have:=EM (f7 b) (eQ b) hk g1 g2 g3 g4;rw[iK,this]at ha;exact Option.some.inj ha
 have hnone:(∀k',k'<cn (fG b)->∀x∈eQ b k',f7 b x=false)->((List.range (cK b).length).flatMap (nr (cK b))).find? (f7 b)=some a:=fun g=>by
  rw[iK,rX (f7 b) (eQ b) g]at ha;exact ha
 have hcq:=fun k (c:Rat × Rat) (h:c∈eQ b k)=>BF hb (tq hb h);have hlen:=fun k=>(uH (fG b) k).trans (o4 b);have hdok:=fun k=>ss b k;have hstep:=fun k (h:k<cn (fG b))=>AZ h;have hnl:=o4 b;refine Ret.of_pwp layOk mixed Go.Proofs.Tryz.func50 O Y O O ?_
 (repeat ((fail_if_success (with_reducible refine a8 1 ?_));refine cP O ?_))
 refine aF (Ghost.move (k:=2) (k':=1002) (t:=2) O O O O) ?_
 ((repeat ((fail_if_success (with_reducible refine a8 1 ?_));refine cP O ?_));refine aQ 2 ?_)
 iterate 2 refine fH O ?_
 refine aW ?_;refine bg O (wj (g1:=1) (g02:=1) b.l hlim hfew O ⟨O,O,trivial⟩ fun s1 g=>?_);refine aU ?_;refine H ?_;rw[hml];refine aB (ie O O O O O O O O J (by show(8:Int)*_<=_;omega) J ?_);rw[List.length_replicate,Int.toNat_natCast,<-hnl,show List.replicate (fG b).length [PV.int .i64 0]=(jB (fG b) 0).map rowP by rw[jB,ite_self,wU];rfl,hnl];refine H ?_;refine b7 [(1,.ptr 1 1 0 0),(2,.ptr 1002 1 0 0),(4,.als 1003 g 0 (bB (bL b.l)).length),(5,.als 19 ((s1.own 19).1+1) 0 b.l.length),(6,.bool (decide (0<cn (fG b))))] [(1,1,⟨29,6,[eB b],2⟩),(1002,1,⟨33,8,[zN++zN],2⟩),(1003,g,⟨164,12,bB (bL b.l),1⟩),(19,((s1.own 19).1+1),⟨3,1,(jB (fG b) 0).map rowP,0⟩)] ⟨O,O,O,O,by rw[decide_eq_true hP0];rfl,O,O,O,O,trivial⟩ ?_;generalize (s1.own 19).1+1=g19;intro s2;refine ar (fun k:Nat=>k<=cn (fG b)/\∀k',k'<k->∀x∈eQ b k',f7 b x=false) (fun k=>[(1,.ptr 1 1 0 0),(2,.ptr 1002 1 0 0),(4,.als 1003 g 0 (bB (bL b.l)).length),(5,.als 19 g19 0 b.l.length),(6,.bool (decide (k<cn (fG b))))]) (fun k=>[(1,1,⟨29,6,[eB b],2⟩),(1002,1,⟨33,8,[zN++zN],2⟩),(1003,g,⟨164,12,bB (bL b.l),1⟩),(19,g19,⟨3,1,(jB (fG b) k).map rowP,0⟩)]) (fun k=>cn (fG b)-k) 0 ⟨Nat.zero_le _,fun j hj=>absurd hj J⟩ ⟨O,O,O,O,O,O,O,O,O,trivial⟩ ?_;rintro k s3 ⟨hk,hall⟩;refine D ?_ ?_<;>intro h
 .have hlt:k<cn (fG b):=ay h;clear h;have est:jB (fG b) k=dL (fG b) k:=by rw[jB,if_pos hlt]
  rw[est];have hlenk:=hlen k;have hC:∀c∈eQ b k,_:=hcq k;have hfk:=fun i c=>hfind k i c hlt hall
  ((repeat ((fail_if_success (with_reducible refine a8 6 ?_));refine cP O ?_));refine aQ 3 ?_)
  iterate 3 refine fH O ?_
  refine aW ?_;refine bg O (pV (g1:=1) (g02:=1) (gE:=g) (gP:=g19) b hb (dL (fG b) k) hlenk (hdok k) (bL b.l) hE J O (by rw[hlenk];rfl) O ⟨O,O,O,O,trivial⟩ fun s4=>?_);refine aU ?_;rw[show gM (dH b (ju (dL (fG b) k))) (cO b (ju (dL (fG b) k))) (bL b.l)=eQ b k from O];have hnx:=hstep k hlt;have hx0:k+1<=cn (fG b):=hlt;have hCl:(eQ b k).length<=200:=by
   have:=BQ (dH b (ju (dL (fG b) k))) (cO b (ju (dL (fG b) k))) (bL b.l);have e:(eQ b k).length<=_:=this;omega
  generalize hCk:eQ b k=C at *
  have hmC:(C.map eP).length=C.length:=List.length_map _;refine H ?_;refine b7 [(1,.ptr 1 1 0 0),(2,.ptr 1002 1 0 0),(4,.als 1003 g 0 (bB (bL b.l)).length),(5,.als 19 g19 0 b.l.length),(7,.sl (C.map eP)),(8,I ((0:Nat):Int))] [(1,1,⟨29,6,[eB b],2⟩),(1002,1,⟨33,8,[zN++zN],2⟩),(1003,g,⟨164,12,bB (bL b.l),1⟩),(19,g19,⟨3,1,(dL (fG b) k).map rowP,0⟩)] ⟨O,O,O,O,O,O,O,O,O,O,trivial⟩ ?_;intro s5;refine ar (fun i:Nat=>i<=C.length/\∀j,j<i->∀x,C[j]? = some x->f7 b x=false) (fun i=>[(1,.ptr 1 1 0 0),(2,.ptr 1002 1 0 0),(4,.als 1003 g 0 (bB (bL b.l)).length),(5,.als 19 g19 0 b.l.length),(7,.sl (C.map eP)),(8,I (i:Nat))]) (fun _=>[(1,1,⟨29,6,[eB b],2⟩),(1002,1,⟨33,8,[zN++zN],2⟩),(1003,g,⟨164,12,bB (bL b.l),1⟩),(19,g19,⟨3,1,(dL (fG b) k).map rowP,0⟩)]) (fun i=>C.length-i) 0 ⟨Nat.zero_le _,fun j hj=>absurd hj J⟩ ⟨O,O,O,O,O,O,O,O,O,O,trivial⟩ ?_;rintro i s6 ⟨hi,hin⟩;refine D ?_ ?_<;>intro h
  .have hlt2:i<C.length:=by have:=ay h;simp only[hmC]at this;omega
   clear h;obtain⟨c,hc⟩:=aO hlt2;have hb1:=hC c (a_ hc);have hfi:=hfk i c hc hin;have hw:=ej i;generalize hbc:f7 b c=bc at *
   refine bQ 6 [34,35,36,37,38,39] ?_;refine aJ hc ?_;refine ax hb1 ?_;refine D ?_ ?_<;>intro h
   .have:=hfi h;subst this;refine aJ hc ?_;exact bM
   .subst h;refine H ?_;refine⟨i+1,⟨hlt2,fun j hj x hx=>?_⟩,J,O,O,O,O,O,congrArg I hw,O,O,O,O,trivial⟩;rcases Nat.lt_or_ge j i with h2|h2
    .exact hin j h2 x hx
    .rw[show j=i by omega,hc]at hx;cases hx;exact hbc
  .have hge:i=C.length:=by have:=aH h;simp only[hmC]at this;omega
   clear h;subst hge
   ((repeat ((fail_if_success (with_reducible refine a8 5 ?_));refine cP O ?_));refine aQ 2 ?_)
   iterate 2 refine fH O ?_
   refine aW ?_;refine bg O (E4 (g1:=1) (g02:=1) (gE:=g) (gP:=g19) b hb (dL (fG b) k) hlenk (hdok k) O (by rw[hlenk];rfl) ⟨O,O,O,O,trivial⟩ fun s7=>?_);refine aU ?_;rw[hnx];refine H ?_;refine⟨k+1,⟨hlt,fun k' hk' x hx=>?_⟩,J,O,O,O,O,O,O,O,O,O,trivial⟩;rcases Nat.lt_or_ge k' k with h2|h2
   .exact hall k' h2 x hx
   .rw[show k'=k by omega,hCk]at hx;obtain⟨j,hj⟩:=List.mem_iff_getElem?.1 hx;exact hin j (bu hj).1 x hj
 .have hge:k=cn (fG b):=by have:=aH h;omega
  clear h;subst hge;have hn2:=hnone hall;refine G w0 ?_;refine G w1 ?_;refine G w0 ?_;refine H ?_;refine aB (bb 1 O O O O O O O O O O O aK O ?_);refine H ?_;refine aB (bE 1 O O O O O O O O O O O aK (by intro row hr;first|(simp at hr;subst hr;rfl)|simp at hr) O O aT aT ?_)
  (repeat ((fail_if_success (with_reducible refine a8 13 ?_));refine cP O ?_))
  refine aF (Ghost.takeD (k:=1003) (t:=4) O O O) ?_;refine H ?_;have hed:bB (cK b)=bB (bL b.l)++[pZ Bd.flat]:=by simp[cK,bB]
  have hEh:∀e∈cK b,LnH e:=fun e he=>wC hb he;have hpq:=fun i (c:Rat × Rat) (h:c∈nr (cK b) i)=>BF hb (yF hb h);have hEl:(cK b).length<=100:=by
   rw[cK,List.length_append];simp;omega
  refine b7 [(1,.ptr 1 1 0 0),(2,.ptr 1002 1 0 0),(4,.sl (bB (cK b))),(9,I ((0:Nat):Int))] [(1,1,⟨29,6,[eB b],2⟩),(1002,1,⟨33,8,[zN++zN],2⟩)] ⟨O,O,by rw[hed];rfl,O,O,O,trivial⟩ ?_;intro s4;generalize cK b=E2 at *
  have hmE:(bB E2).length=E2.length:=List.length_map _;clear hfind hnone hcq hstep hdok hlen hall hE ha;refine ar (fun i:Nat=>i<=E2.length/\∀i',i'<i->∀x∈nr E2 i',f7 b x=false) (fun i=>[(1,.ptr 1 1 0 0),(2,.ptr 1002 1 0 0),(4,.sl (bB E2)),(9,I (i:Nat))]) (fun _=>[(1,1,⟨29,6,[eB b],2⟩),(1002,1,⟨33,8,[zN++zN],2⟩)]) (fun i=>E2.length-i) 0 ⟨Nat.zero_le _,fun j hj=>absurd hj J⟩ ⟨O,O,O,O,O,O,trivial⟩ ?_;rintro i s5 ⟨hi,hall⟩;refine D ?_ ?_<;>intro h
  .have hlt:i<E2.length:=by have:=ay h;simp only[hmE]at this;omega
   clear h;have hei:=aN (d:=Bd.flat) hlt;have hw:=ej i;refine H ?_;refine b7 [(1,.ptr 1 1 0 0),(2,.ptr 1002 1 0 0),(4,.sl (bB E2)),(9,I (i:Nat)),(10,I ((0:Nat):Int))] [(1,1,⟨29,6,[eB b],2⟩),(1002,1,⟨33,8,[zN++zN],2⟩)] ⟨O,O,O,O,O,O,O,trivial⟩ ?_;intro s6;refine ar (fun k:Nat=>k<=i/\∀j,j<k->∀x∈(Bd.cross (E2.getD i Bd.flat) (E2.getD j Bd.flat)).toList,f7 b x=false) (fun k=>[(1,.ptr 1 1 0 0),(2,.ptr 1002 1 0 0),(4,.sl (bB E2)),(9,I (i:Nat)),(10,I (k:Nat))]) (fun _=>[(1,1,⟨29,6,[eB b],2⟩),(1002,1,⟨33,8,[zN++zN],2⟩)]) (fun k=>i-k) 0 ⟨Nat.zero_le _,fun j hj=>absurd hj J⟩ ⟨O,O,O,O,O,O,O,trivial⟩ ?_;rintro k s7 ⟨hk,hin⟩;refine D ?_ ?_<;>intro h
   .have hlk:k<i:=by have:=ay h;omega
    clear h;have hek:=aN (d:=Bd.flat) (show k<E2.length by omega);have mt:=nM (jL hEh i) (jL hEh k);have hwk:IntKind.i64.wrap (((k:Nat):Int)+1)=((k+1:Nat):Int):=by rw[wrap_i64 J J];omega
    cases ho:Bd.cross (E2.getD i Bd.flat) (E2.getD k Bd.flat) with
    |none =>
     rw[ho]at mt;refine H ?_;refine dW [(12,11),(13,11)] aX aX ?_;refine aJ hei ?_;refine aJ hek ?_;refine G mt ?_;refine H ?_;refine Bm O O O O O ?_;refine Bn 2 O O O O O O (fun _=>rfl) aK O O O O ?_;refine H ?_;refine⟨k+1,⟨hlk,fun j hj x hx=>?_⟩,J,O,O,O,O,congrArg I hwk,O,O,trivial⟩;rcases Nat.lt_or_ge j k with h2|h2
     .exact hin j h2 x hx
     .rw[show j=k by omega,ho]at hx;cases hx
    |some c =>
     rw[ho]at mt;have hb1:=hpq i c (List.mem_flatMap.2 ⟨k,List.mem_range.2 hlk,by rw[ho];simp⟩);have hfound:f7 b c=true->c=a:=fun hc=>by
      have h1:(nr E2 i).find? (f7 b)=some c:=yj (f7 b) _ hlk hin (by rw[ho];simp[hc]);have h2:=yj (f7 b) (nr E2) hlt hall h1;rw[hn2]at h2;exact(Option.some.inj h2).symm
     generalize hbc:f7 b c=bc at *
     refine H ?_;refine dW [(12,11),(13,11)] aX aX ?_;refine aJ hei ?_;refine aJ hek ?_;refine G mt ?_;refine H ?_;refine Bm O O O O O ?_;refine Bn 2 O O O O O O (fun _=>rfl) aK O O O O ?_;refine ax hb1 ?_;refine D ?_ ?_<;>intro h
     .have:=hfound h;subst this;exact bM
     .subst h;refine H ?_;refine⟨k+1,⟨hlk,fun j hj x hx=>?_⟩,J,O,O,O,O,congrArg I hwk,O,O,trivial⟩;rcases Nat.lt_or_ge j k with h2|h2
      .exact hin j h2 x hx
      .rw[show j=k by omega,ho]at hx;rw[List.mem_singleton.1 hx];exact hbc
   .have hge:k=i:=by have:=aH h;omega
    clear h;subst hge;refine H ?_;refine⟨k+1,⟨hlt,fun i' hi' x hx=>?_⟩,J,O,O,O,congrArg I hw,O,O,trivial⟩;rcases Nat.lt_or_ge i' k with h2|h2
    .exact hall i' h2 x hx
    .rw[show i'=k by omega]at hx;obtain⟨j,hj,hx⟩:=List.mem_flatMap.1 hx;exact hin j (List.mem_range.1 hj) x hx
  .exfalso;have hge:i=E2.length:=by have:=aH h;simp only[hmE]at this;omega
   subst hge;rw[rX (f7 b) (nr E2) hall]at hn2;cases hn2
set_option maxRecDepth 20000 in
theorem Ay (c:CR)(hc:c.Lim)(h0:bJ c=0)(y:RR){p:Rat}{n:Nat}[hy:Vq y p n](hn:n<=1000000):Ret Tryz.prog .shared 114 [.agg (eC c),.agg (eR y)] (.agg (eR (ofQ (aZ c.m (l_ c.s p c.S.length))))):=by
 obtain⟨h40,hSM,-,hasc⟩:=ct h0;have w0:=gL;have hSm:(c.S.map eN).length=c.S.length:=ak;generalize hN:c.S.length=N at *
 refine Ret.of_pwp layOk mixed Go.Proofs.Tryz.func114 O Y O O ?_;refine G w0 ?_;refine H ?_;refine ar (fun i:Nat=>i<=N) (fun i=>[(2,.ptr 2 1 0 0),(3,.ptr 3 1 0 0),(4,.ptr 4 1 0 0),(5,.ptr 5 1 0 0),(6,I (i:Nat))])
  (fun i=>[(2,1,⟨69,2,[eC c],2⟩),(3,1,⟨26,4,[eR y],2⟩),(4,1,⟨26,4,[zN],2⟩),(5,1,⟨26,4,[eR (ofQ (aZ c.m (l_ c.s p i)))],2⟩)]) (fun i=>N-i) 0 (Nat.zero_le _) ⟨O,O,O,O,O,O,O,O,O,trivial⟩ ?_
 intro i s hi;refine D ?_ ?_<;>intro h
 .have hlt:i<N:=by have:=ay h;rw[hSm]at this;omega
  clear h;have hx:=aN (l:=c.S) (i:=i) (d:=0) J;have hmx:=aN (l:=c.M) (i:=i) (d:=RR.zero) J;have hxi:=hc.s _ (a_ hx);have hmv:=(hc.m _ (a_ hmx)).v;have hw:=bC _ hxi;have zbi:Zb (c.S.getD i 0):=aL hxi.1 hxi.2;have hc1:=dg y (ofQ ((c.S.getD i 0:Int):Rat)) J Y;have hg:=gG (p-((c.S.getD i 0:Int):Rat));have e4:=dM (c.M.getD i RR.zero) (ofQ 0) (hx:=hmv) Y Y;rw[Rat.add_zero]at e4;have hnx:IntKind.i64.wrap (((i:Nat):Int)+1)=((i+1:Nat):Int):=by rw[wrap_i64 J J];omega
  have hpr:ofQ (aZ c.m (l_ c.s p (i+1)))=if 0<sgn (p-((c.S.getD i 0:Int):Rat)) then ofQ (c.M.getD i RR.zero).val else ofQ (aZ c.m (l_ c.s p i)):=by
   rw[l_];by_cases hle:c.s i<p
   .rw[if_pos hle,if_pos (hg.2 (by have:((c.S.getD i 0:Int):Rat)<p:=hle;grind)),aZ];rfl
   .rw[if_neg hle,if_neg (fun h=>hle (by have:=hg.1 h;show((c.S.getD i 0:Int):Rat)<p;grind))]
  generalize hSN:ofQ (aZ c.m (l_ c.s p (i+1)))=S1 at *
  generalize ofQ (aZ c.m (l_ c.s p i))=S0 at *
  generalize ofQ (c.M.getD i RR.zero).val=M1 at *
  generalize sgn (p-((c.S.getD i 0:Int):Rat))=sg at *
  generalize ofQ ((c.S.getD i 0:Int):Rat)=W0 at *
  generalize c.S.getD i 0=x0 at *
  generalize c.M.getD i RR.zero=m0 at *
  refine bQ 9 [15,16,17,18,19,20,21,22,23] ?_;refine aJ hx ?_;refine G hw ?_;refine ax hc1 ?_;refine D ?_ ?_<;>intro h
  .have h1:=ay h;clear h;rw[if_pos h1]at hpr;refine bQ 7 [24,25,26,27,28,29,30] ?_;refine aJ hmx ?_;refine G w0 ?_;refine G e4 ?_;refine H ?_;refine⟨i+1,hlt,J,O,O,O,O,congrArg I hnx,O,O,O,?_,trivial⟩;show(_:Nat × Option Cont)=(1,some (Cont.mk 26 4 [eR (ofQ (aZ c.m (l_ c.s p (i+1))))] 2));rw[hSN,hpr];rfl
  .have h1:=aH h;clear h;rw[if_neg h1]at hpr;refine H ?_;refine⟨i+1,hlt,J,O,O,O,O,congrArg I hnx,O,O,O,?_,trivial⟩;show(_:Nat × Option Cont)=(1,some (Cont.mk 26 4 [eR (ofQ (aZ c.m (l_ c.s p (i+1))))] 2));rw[hSN,hpr];rfl
 .have hie:i=N:=by have:=aH h;rw[hSm]at this;omega
  clear h;subst hie;exact bM
def fi (l:List SR):List AR:=[b6,qZ]++l.flatMap fun s=>[jG s.x,pU s.x]
def lL (b:BR)(z t:Rat):Bool:=(fi b.l).any fun d=>eX b.l z t d.z.val d.t.val
theorem Az (b:BR)(z t:Rat):lL b z t=cZ b z t:=by
 have key:∀d,d∈fi b.l↔d∈fj b.l:=fun d=>by
  rw[fi,fj,cf];simp only[List.mem_append,List.mem_flatMap,List.mem_map,List.mem_cons,List.not_mem_nil,or_false];constructor
  .rintro(h|⟨s,hs,h|h⟩)
   .exact .inr h
   .exact .inl (.inl ⟨s.x,c_ hs,h.symm⟩)
   .exact .inl (.inr ⟨s.x,c_ hs,h.symm⟩)
  .rintro((⟨x,hx,h⟩|⟨x,hx,h⟩)|h)
   .obtain⟨s,hs,rfl⟩:=fw hx;exact .inr ⟨s,hs,.inl h.symm⟩
   .obtain⟨s,hs,rfl⟩:=fw hx;exact .inr ⟨s,hs,.inr h.symm⟩
   .exact .inl h
 rw[lL,cZ,Bool.eq_iff_iff,List.any_eq_true,List.any_eq_true];exact⟨fun⟨d,h1,h2⟩=>⟨d,(key d).1 h1,h2⟩,fun⟨d,h1,h2⟩=>⟨d,(key d).2 h1,h2⟩⟩
theorem B0 {l:List SR}(hck:bT l=0){r:AR}(h:r∈fi l):Va r r.z.val r.t.val 4 4:=by
 rw[fi,List.mem_append]at h;rcases h with h|h
 .exact rT (l:=l) hck (List.mem_append_right _ h)
 .obtain⟨s,hs,h⟩:=List.mem_flatMap.1 h;refine rT (l:=l) hck (List.mem_append_left _ ?_);rw[cf,List.mem_append,List.mem_map,List.mem_map];simp only[List.mem_cons,List.not_mem_nil,or_false]at h;rcases h with h|h
  .exact .inl ⟨s.x,c_ hs,h.symm⟩
  .exact .inr ⟨s.x,c_ hs,h.symm⟩
theorem x_ {s:SR}(h0:bJ s.k=0){p:Nat}(hp:p<=s.k.S.length):0<=aZ s.k.m p:=by
 cases p with
 |zero=>exact Rat.le_refl
 |succ q=>exact((ct h0).2.2.1 q J).2.2
theorem qo (l:List SR):(fi l).length=2+l.length*2:=by
 rw[fi,List.length_append];congr 1
 induction l with
 |nil=>rfl
 |cons s l ih=>rw[List.flatMap_cons,List.length_append,ih,List.length_cons];simp;omega
theorem wr {l:List SR}{i:Nat}{s:SR}(h:l[i]? = some s):fi (l.take (i+1))=fi (l.take i)++[jG s.x,pU s.x]:=by
 rw[bG h,fi,fi,List.flatMap_append,List.append_assoc];simp
set_option maxRecDepth 20000 in
theorem xh (b:BR)(hb:b.Ok)(a:AR){z t:Rat}{n m:Nat}[ha:Va a z t n m](hn:n+m<=50000):Ret Tryz.prog .shared 51 [.agg (eB b),.agg (eA a)] (.bool (lL b z t)):=by
 have b1:=bC 1 ⟨Y,Y⟩;have b0:=bC 0 ⟨Y,Y⟩;have bm:=bC (-1) ⟨Y,Y⟩;have hck:=hb.chkL;have hl:=hb.lim.l;have h12:=hb.few.1;have h8:=hb.few.2;have hml:(b.l.map eS).length=b.l.length:=ak;have hdv:=fun r (h:r∈fi b.l)=>B0 hck h;have hdl:=qo b.l;have hdl2:=fun i=>qo (b.l.take i);generalize hR:lL b z t=R;rw[lL]at hR;refine Ret.of_pwp layOk mixed Go.Proofs.Tryz.func51 O Y O O ?_;refine G b1 ?_;refine G b0 ?_;refine G bm ?_;refine G b0 ?_;refine H ?_;refine aB (bb 1 O O O O O O O O O O O aK O ?_);refine H ?_;refine ar (fun q:Nat × Nat=>q.1<=b.l.length) (fun q=>[(2,.ptr 2 1 0 0),(3,.ptr 3 1 0 0),(5,.als 20 q.2 0 ((fi (b.l.take q.1)).map eA).length),(6,I (q.1:Nat))]) (fun q=>[(2,1,⟨29,6,[eB b],2⟩),(3,1,⟨33,8,[eA a],2⟩),(20,q.2,⟨38,8,(fi (b.l.take q.1)).map eA,1⟩)]) (fun q=>b.l.length-q.1) (0,1) (Nat.zero_le _) ⟨O,O,O,O,O,O,O,trivial⟩ ?_;rintro⟨i,g⟩ s1 hi;dsimp only at hi ⊢;refine D ?_ ?_<;>intro h
 .have hlt:i<b.l.length:=by have:=ay h;simp only[hml]at this;omega
  clear h;have hx:=aN (d:=dS) hlt;have hr:=et hck (c_ (aM hlt));have hsn:=wr hx;have hdi:=hdl2 i;rw[List.length_take]at hdi;have hw:=ej i;generalize b.l.getD i dS=S at *
  have hng:IntKind.i64.wrap (0-S.x) = -S.x:=by rw[wrap_i64 J J];omega
  have bx:=bC S.x ⟨J,J⟩;have bn:=bC (-S.x) ⟨J,J⟩;have hrow:(fi (b.l.take (i+1))).map eA=(fi (b.l.take i)).map eA++[eA (jG S.x),eA (pU S.x)]:=by rw[hsn,List.map_append];rfl
  generalize fi (b.l.take i)=D0 at *
  refine aJ hx ?_;refine H ?_;rw[hng];refine mJ O O O bn O O ?_;refine G b1 ?_;refine G bx ?_;refine G bm ?_;refine H ?_;refine aB (bb 1 O O O O O O O O O O O aK O ?_);refine H ?_;refine aB (bE 1 rfl rfl rfl rfl rfl rfl rfl rfl rfl rfl rfl aK (by intro row hr;simp at hr;rcases hr with rfl|rfl<;>rfl) rfl rfl aT aT ?_);refine H ?_;refine⟨(i+1,g+1),hlt,by simp only;omega,O,O,?_,congrArg I hw,O,O,?_,trivial⟩
  .dsimp only;rw[hrow];rfl
  .dsimp only;rw[hrow];rfl
 .have hge:i=b.l.length:=by have:=aH h;simp only[hml]at this;omega
  clear h;subst hge;rw[List.take_length]
  (repeat ((fail_if_success (with_reducible refine a8 7 ?_));refine cP O ?_))
  refine aF (Ghost.takeD (k:=20) (t:=5) O O O) ?_;refine H ?_;generalize fi b.l=D0 at *
  have hmD:(D0.map eA).length=D0.length:=List.length_map _;refine ar (fun i:Nat=>i<=D0.length/\(D0.drop i).any (fun d=>eX b.l z t d.z.val d.t.val)=R) (fun i=>[(2,.ptr 2 1 0 0),(3,.ptr 3 1 0 0),(5,.sl (D0.map eA)),(8,I (i:Nat))]) (fun _=>[(2,1,⟨29,6,[eB b],2⟩),(3,1,⟨33,8,[eA a],2⟩)]) (fun i=>D0.length-i) 0 ⟨Nat.zero_le _,hR⟩ ⟨O,O,O,O,O,O,trivial⟩ ?_;rintro i s2 ⟨hi,hany⟩;refine D ?_ ?_<;>intro h
  .have hlt:i<D0.length:=by have:=ay h;simp only[hmD]at this;omega
   clear h;obtain⟨r,hrd⟩:=aO hlt;have hrv:=hdv r (a_ hrd);have hdrop:(D0.drop i).any (fun d=>eX b.l z t d.z.val d.t.val)=(eX b.l z t r.z.val r.t.val||(D0.drop (i+1)).any (fun d=>eX b.l z t d.z.val d.t.val)):=by
    obtain⟨hl1,h2⟩:=bu hrd;rw[List.drop_eq_getElem_cons hl1,h2,List.any_cons]
   rw[hdrop]at hany;clear hdrop;have hw:=ej i;refine H ?_;refine b7 [(2,.ptr 2 1 0 0),(3,.ptr 3 1 0 0),(5,.sl (D0.map eA)),(8,I (i:Nat)),(9,.bool true),(10,I ((0:Nat):Int))] [(2,1,⟨29,6,[eB b],2⟩),(3,1,⟨33,8,[eA a],2⟩)] ⟨O,O,O,O,O,O,O,O,trivial⟩ ?_;intro s3;refine ar (fun k:Nat=>k<=b.l.length) (fun k=>[(2,.ptr 2 1 0 0),(3,.ptr 3 1 0 0),(5,.sl (D0.map eA)),(8,I (i:Nat)),(9,.bool ((b.l.take k).all (o5 z t r.z.val r.t.val))),(10,I (k:Nat))]) (fun _=>[(2,1,⟨29,6,[eB b],2⟩),(3,1,⟨33,8,[eA a],2⟩)]) (fun k=>b.l.length-k) 0 (Nat.zero_le _) ⟨O,O,O,O,O,O,O,O,trivial⟩ ?_;intro k s4 hk;refine D ?_ ?_<;>intro h
   .have hlk:k<b.l.length:=by have:=ay h;simp only[hml]at this;omega
    clear h;have hx:=aN (d:=dS) hlk;have hs:=hl.1 _ (aM hlk);have hc0:=b5 hck _ (aM hlk);have hfr:(b.l.take (k+1)).all (o5 z t r.z.val r.t.val)=((b.l.take k).all (o5 z t r.z.val r.t.val)&&o5 z t r.z.val r.t.val (b.l.getD k dS)):=by
     rw[bG hx,List.all_append];simp
    have hwk:IntKind.i64.wrap (((k:Nat):Int)+1)=((k+1:Nat):Int):=by rw[wrap_i64 J J];omega
    generalize b.l.getD k dS=S at *
    have zx:Zb S.x:=aL hs.x.1 hs.x.2;have y1:=uR S hs a (z:=z) (t:=t) J J;have hy:=rx hs ha.z.hq ha.t.hq;have bx:=bC S.x hs.x;have e2:=cN r.t (ofQ (S.x:Rat)) (hx:=hrv.t) (hy:=Vq.ofQ (h:=HQ.int)) Y Y;have h2:HQ (r.t.val*(S.x:Rat)) 9:=@HQ.mul _ _ 5 4 hrv.t.hq HQ.int;have e3:=dM r.z (ofQ (r.t.val*(S.x:Rat))) (hx:=hrv.z) (hy:=Vq.ofQ (h:=h2)) Y Y;have h3:HQ (r.z.val+r.t.val*(S.x:Rat)) 15:=@HQ.add _ _ 5 9 hrv.z.hq h2;have e4:=kQ (ofQ (r.z.val+r.t.val*(S.x:Rat))) (hx:=Vq.ofQ (h:=h3)) Y;have cr:=xp S.k hs.k hc0 (ofQ (yQ S z t)) (hy:=Vq.ofQ (h:=hy)) J;have cl:=Ay S.k hs.k hc0 (ofQ (yQ S z t)) (hy:=Vq.ofQ (h:=hy)) J;rw[show aZ S.k.m (jh S.k.s (yQ S z t) S.k.S.length)=rV S z t from O]at cr;rw[show aZ S.k.m (l_ S.k.s (yQ S z t) S.k.S.length)=lV S z t from O]at cl;have sr:=kQ (ofQ (rV S z t)) (hx:=Vq.ofQ (h:=(nb S.k hs.k _).hq)) Y;have sl:=kQ (ofQ (lV S z t)) (hx:=Vq.ofQ (h:=(nb S.k hs.k _).hq)) Y;have rn:0<=rV S z t:=x_ hc0 (pf _).1;have ln:0<=lV S z t:=x_ hc0 (o_ _).1;have hok:o5 z t r.z.val r.t.val S=decide (¬((0<r.z.val+r.t.val*(S.x:Rat)/\rV S z t≠0)\/(r.z.val+r.t.val*(S.x:Rat)<0/\lV S z t≠0))):=O;have hsg:(sgn (r.z.val+r.t.val*(S.x:Rat))=1/\0<r.z.val+r.t.val*(S.x:Rat))\/(sgn (r.z.val+r.t.val*(S.x:Rat)) = -1/\r.z.val+r.t.val*(S.x:Rat)<0)\/(sgn (r.z.val+r.t.val*(S.x:Rat))=0/\r.z.val+r.t.val*(S.x:Rat)=0):=by
     by_cases h:r.z.val+r.t.val*(S.x:Rat)<0
     .exact .inr (.inl ⟨sN h,h⟩)
     .by_cases h0:r.z.val+r.t.val*(S.x:Rat)=0
      .exact .inr (.inr ⟨iJ h0,h0⟩)
      .have hp:0<r.z.val+r.t.val*(S.x:Rat):=aP;exact .inl ⟨lT hp,hp⟩
    have hrr:(sgn (rV S z t)=0/\rV S z t=0)\/(sgn (rV S z t)=1/\rV S z t≠0):=by
     by_cases h:rV S z t=0
     .exact .inl ⟨iJ h,h⟩
     .exact .inr ⟨lT aP,h⟩
    have hll:(sgn (lV S z t)=0/\lV S z t=0)\/(sgn (lV S z t)=1/\lV S z t≠0):=by
     by_cases h:lV S z t=0
     .exact .inl ⟨iJ h,h⟩
     .exact .inr ⟨lT aP,h⟩
    clear rn ln h2 h3 hy zx;generalize (b.l.take k).all (o5 z t r.z.val r.t.val)=fr at *
    generalize hokg:o5 z t r.z.val r.t.val S=ok at *
    generalize sgn (r.z.val+r.t.val*(S.x:Rat))=sg at *
    generalize sgn (rV S z t)=ur at *
    generalize sgn (lV S z t)=ul at *
    refine aJ hx ?_;refine G y1 ?_;refine bQ 17 [67,68,69,70,71,72,73,74,75,76,77,78,79,80,81,82,13] ?_;refine aJ hrd ?_;refine aJ hrd ?_;refine G bx ?_;refine G e2 ?_;refine G e3 ?_;refine ax e4 ?_;cases fr with
    |false =>
     refine H ?_;exact⟨k+1,hlk,J,O,O,O,O,by rw[hfr];rfl,congrArg I hwk,O,O,trivial⟩
    |true =>
     rcases hsg with⟨rfl,hd⟩|⟨rfl,hd⟩|⟨rfl,hd⟩
     .rcases hrr with⟨rfl,hv⟩|⟨rfl,hv⟩
      .have hk1:ok=true:=by rw[hok,decide_eq_true_eq];rintro(⟨_,h⟩|⟨h,_⟩);exact h hv;grind
       subst hk1;refine G cr ?_;refine ax sr ?_;refine H ?_;exact⟨k+1,hlk,J,O,O,O,O,by rw[hfr];rfl,congrArg I hwk,O,O,trivial⟩
      .have hk1:ok=false:=by rw[hok,decide_eq_false_iff_not];exact fun h=>h (.inl ⟨hd,hv⟩)
       subst hk1;refine G cr ?_;refine ax sr ?_;refine H ?_;exact⟨k+1,hlk,J,O,O,O,O,by rw[hfr];rfl,congrArg I hwk,O,O,trivial⟩
     .rcases hll with⟨rfl,hv⟩|⟨rfl,hv⟩
      .have hk1:ok=true:=by rw[hok,decide_eq_true_eq];rintro(⟨h,_⟩|⟨_,h⟩);grind;exact h hv
       subst hk1;refine G cl ?_;refine ax sl ?_;refine H ?_;exact⟨k+1,hlk,J,O,O,O,O,by rw[hfr];rfl,congrArg I hwk,O,O,trivial⟩
      .have hk1:ok=false:=by rw[hok,decide_eq_false_iff_not];exact fun h=>h (.inr ⟨hd,hv⟩)
       subst hk1;refine G cl ?_;refine ax sl ?_;refine H ?_;exact⟨k+1,hlk,J,O,O,O,O,by rw[hfr];rfl,congrArg I hwk,O,O,trivial⟩
     .have hk1:ok=true:=by rw[hok,decide_eq_true_eq];rintro(⟨h,_⟩|⟨h,_⟩)<;>grind
      subst hk1;refine H ?_;exact⟨k+1,hlk,J,O,O,O,O,by rw[hfr];rfl,congrArg I hwk,O,O,trivial⟩
   .have hge:k=b.l.length:=by have:=aH h;simp only[hml]at this;omega
    clear h;subst hge;rw[List.take_length,<-eX];generalize eX b.l z t r.z.val r.t.val=fb at *
    refine D ?_ ?_<;>intro h
    .subst h;rw[Bool.true_or]at hany;subst hany;exact fW
    .subst h;rw[Bool.false_or]at hany;refine H ?_;exact⟨i+1,⟨hlt,hany⟩,J,O,O,O,congrArg I hw,O,O,trivial⟩
  .have hge:i=D0.length:=by have:=aH h;simp only[hmD]at this;omega
   clear h;subst hge;rw[List.drop_length]at hany;subst hany;exact fW
theorem x8:∀ {l m:List Int},l.Pairwise (·<·)->m.Pairwise (·<·)->(∀x,x∈l↔x∈m)->l=m
 |[],[],_,_,_=>rfl
 |[],y::m,_,_,h=>by have:=(h y).2 ak;cases this
 |x::l,[],_,_,h=>by have:=(h x).1 ak;cases this
 |x::l,y::m,hl,hm,h=>by
  obtain⟨hl1,hl2⟩:=List.pairwise_cons.1 hl;obtain⟨hm1,hm2⟩:=List.pairwise_cons.1 hm;have hxy:x=y:=by
   have h1:=(h x).1 ak;have h2:=(h y).2 ak;rcases List.mem_cons.1 h1 with e|e
   .exact e
   .rcases List.mem_cons.1 h2 with e2|e2
    .exact e2.symm
    .have:=hm1 x e;have:=hl1 y e2;omega
  subst hxy;congr 1;refine x8 hl2 hm2 fun z=>⟨fun hz=>?_,fun hz=>?_⟩
  .rcases List.mem_cons.1 ((h z).1 (List.mem_cons_of_mem _ hz)) with e|e
   .have:=hl1 z hz;omega
   .exact e
  .rcases List.mem_cons.1 ((h z).2 (List.mem_cons_of_mem _ hz)) with e|e
   .have:=hm1 z hz;omega
   .exact e
theorem tv {l:List Int}(hs:l.Pairwise (·<=·)):(Lib.compact l).Pairwise (·<·):=by
 rw[Lib.compact,Lib.compactUpTo,List.pairwise_map];have h:((List.range l.length).filter (Lib.keeps l.toArray)).Pairwise (·<·):=List.pairwise_lt_range.filter _;refine h.imp_of_mem fun {i j} hi hj hij=>?_;have hi:=List.mem_range.1 (List.mem_filter.1 hi).1;have hk:=(List.mem_filter.1 hj).2;have hj:=List.mem_range.1 (List.mem_filter.1 hj).1;simp only[List.getElem!_toArray];rw[Lib.keeps,decide_eq_true_eq]at hk;simp only[List.getElem!_toArray]at hk;rw[getElem!_pos l j hj,getElem!_pos l (j-1) J]at hk;rw[getElem!_pos l j hj,getElem!_pos l i hi];have h1:l[i]<=l[j-1]:=by
  rcases Nat.lt_or_ge i (j-1) with g|g
  .exact List.pairwise_iff_getElem.1 hs i (j-1) hi J g
  .have:i=j-1:=J;subst this;exact Int.le_refl _
 have h2:l[j-1]<=l[j]:=List.pairwise_iff_getElem.1 hs (j-1) j J hj J;rcases hk with hk|hk
 .omega
 .omega
theorem wV (l:List SR):(bt l).Pairwise (·<·):=by
 refine tv ?_;have:=List.pairwise_mergeSort (le:=fun x y:Int=>decide (x<=y)) (fun a b c h1 h2=>by simp at *;omega) (fun a b=>by simp;omega) (l.map (·.x));refine List.Pairwise.imp ?_ this;intro a b h;simpa using h
theorem wW {l:List SR}{x:Int}:x∈bt l↔∃s∈l,s.x=x:=⟨fw,fun⟨_,hs,e⟩=>e▸c_ hs⟩
theorem DO {A:List Int}{x:Int}{j:Nat}(hA:A.Pairwise (·<·)){y:Int}(hy:A[j]? = some y)(hx:x<y):∀z∈A.drop j,x<z:=by
 obtain⟨hl,e⟩:=bu hy;have h:=hA.sublist (List.drop_sublist j A);rw[List.drop_eq_getElem_cons hl,e]at h ⊢;intro z hz;rcases List.mem_cons.1 hz with rfl|hz
 .exact hx
 .have:=(List.pairwise_cons.1 h).1 z hz;omega
theorem EO {A:List Int}{x:Int}{j:Nat}(hA:A.Pairwise (·<·))(h1:∀y∈A.take j,y<x)(h2:∀y∈A.drop j,x<y):(A.take j++[x]++A.drop j).Pairwise (·<·):=by
 have h3:=hA.sublist (List.take_sublist j A);have h4:=hA.sublist (List.drop_sublist j A);rw[List.pairwise_append,List.pairwise_append];refine⟨⟨h3,List.pairwise_singleton _ _,fun a ha b hb=>?_⟩,h4,fun a ha b hb=>?_⟩
 .rw[List.mem_singleton.1 hb];exact h1 a ha
 .have hb2:=h2 b hb;rcases List.mem_append.1 ha with ha|ha
  .have:=h1 a ha;omega
  .rw[List.mem_singleton.1 ha];exact hb2
theorem EQ {A:List Int}{x:Int}{j:Nat}(z:Int):z∈A.take j++[x]++A.drop j↔z∈A\/z=x:=by
 have h:z∈A↔z∈A.take j\/z∈A.drop j:=by rw[<-List.mem_append,List.take_append_drop]
 rw[h];simp only[List.mem_append,List.mem_singleton];constructor
 .rintro((q|q)|q)
  .exact .inl (.inl q)
  .exact .inr q
  .exact .inl (.inr q)
 .rintro((q|q)|q)
  .exact .inl (.inl q)
  .exact .inr q
  .exact .inl (.inr q)
theorem EP {A:List Int}{x:Int}{j:Nat}:(A.take j++[x]++A.drop j).length=A.length+1:=by simp;omega
def PlInv (l:List SR)(i:Nat)(A:List Int):Prop:=A.length<=i/\A.Pairwise (·<·)/\∀x,x∈A↔∃s∈l.take i,s.x=x
theorem CY {l:List SR}{i:Nat}{s:SR}(hs:l[i]? = some s)(x:Int):(∃q∈l.take (i+1),q.x=x)↔(∃q∈l.take i,q.x=x)\/x=s.x:=by
 rw[cM hs];constructor
 .rintro⟨q,hq,rfl⟩;rcases List.mem_append.1 hq with hq|hq
  .exact .inl ⟨q,hq,O⟩
  .rw[List.mem_singleton.1 hq];exact .inr O
 .rintro(⟨q,hq,rfl⟩|rfl)
  .exact⟨q,List.mem_append_left _ hq,O⟩
  .exact⟨s,List.mem_append_right _ (List.mem_singleton_self _),O⟩
theorem PlInv.same {l:List SR}{i:Nat}{A:List Int}{s:SR}(h:PlInv l i A)(hs:l[i]? = some s)(hm:s.x∈A):PlInv l (i+1) A:=by
 obtain⟨h1,h2,h3⟩:=h;refine⟨J,h2,fun x=>?_⟩;rw[CY hs,<-h3];constructor
 .exact .inl
 .rintro(h|rfl)
  .exact h
  .exact hm
theorem PlInv.more {l:List SR}{i:Nat}{A:List Int}{s:SR}(h:PlInv l i A)(hs:l[i]? = some s){j:Nat}(g1:∀y∈A.take j,y<s.x)(g2:∀y∈A.drop j,s.x<y):PlInv l (i+1) (A.take j++[s.x]++A.drop j):=by
 obtain⟨h1,h2,h3⟩:=h;refine⟨by rw[EP];omega,EO h2 g1 g2,fun x=>?_⟩;rw[EQ,CY hs,<-h3]
theorem PlInv.all {l:List SR}{A:List Int}(h:PlInv l l.length A):A=bt l:=by
 obtain⟨-,h2,h3⟩:=h;rw[List.take_length]at h3;exact x8 h2 (wV l) fun x=>by rw[h3,wW]
theorem rW (z:Int):(eN z).length=1:=rfl
set_option maxRecDepth 20000 in
theorem uT (l:List SR)(h12:l.length<=1000):Ret Tryz.prog .shared 106 [.sl (l.map eS)] (.sl ((bt l).map eN)):=by
 have hml:(l.map eS).length=l.length:=ak;refine Ret.of_pwp layOk mixed Go.Proofs.Tryz.func106 O Y O O ?_;refine H ?_;refine aF (Ghost.nilsl (t:=3) O) ?_;refine ar (fun q:Nat × List Int=>q.1<=l.length/\PlInv l q.1 q.2) (fun q=>[(0,.sl (l.map eS)),(3,.sl (q.2.map eN)),(4,I (q.1:Nat))]) (fun _=>[]) (fun q=>l.length-q.1) (0,[]) ⟨Nat.zero_le _,aS,.nil,ak⟩ ⟨O,O,O,trivial⟩ ?_;rintro⟨i,A⟩ s ⟨hi,hA⟩;simp only at hi hA;dsimp only;refine D ?_ ?_<;>intro h
 .have hlt:i<l.length:=by have:=ay h;omega
  clear h;obtain⟨x,hx⟩:=aO hlt;have hAl:=hA.1;have hmA:(A.map eN).length=A.length:=ak;have hw:=ej i;refine H ?_;refine ar (fun j:Nat=>j<=A.length/\∀y∈A.take j,y<x.x) (fun j=>[(0,.sl (l.map eS)),(3,.sl (A.map eN)),(4,I (i:Nat)),(5,I (j:Nat))]) (fun _=>[]) (fun j=>A.length-j) 0 ⟨Nat.zero_le _,ak⟩ ⟨O,O,O,O,trivial⟩ ?_;intro j s ⟨hj,hjl⟩;have hwj:IntKind.i64.wrap (((j:Nat):Int)+1)=((j+1:Nat):Int):=by rw[wrap_i64 J J];omega
  refine bQ 16 [13,14,15,16,17,18,19,20,21,22,23,24,25,26,27,28] ?_;refine bP ?_ ?_<;>intro h
  .have hjlt:j<A.length:=by have:=ay h;omega
   clear h;obtain⟨y,hy⟩:=aO hjlt;refine aJ hy ?_;refine aJ hx ?_;refine D ?_ ?_<;>intro h
   .have hyx:y<x.x:=ay h;clear h;refine H ?_;refine⟨j+1,⟨hjlt,fun z hz=>?_⟩,J,O,O,O,congrArg I hwj,trivial⟩;rw[cM hy]at hz;rcases List.mem_append.1 hz with hz|hz
    .exact hjl z hz
    .rw[List.mem_singleton.1 hz];exact hyx
   .have hyx:¬y<x.x:=aH h;clear h;refine bQ 16 [31,32,33,34,35,36,37,38,39,40,41,42,43,44,45,46] ?_;refine bP ?_ ?_<;>intro h
    rotate_left
    .exfalso;have:=aH h;omega
    clear h;refine aJ hy ?_;refine aJ hx ?_;refine D ?_ ?_<;>intro h
    .have hxy:y=x.x:=ay h;clear h;refine H ?_;exact⟨(i+1,A),⟨hlt,hA.same hx (by rw[<-hxy];exact a_ hy)⟩,by simp only;omega,O,O,congrArg I hw,trivial⟩
    .have hxy:y≠x.x:=aH h;clear h;have hI:=hA.more hx hjl (DO hA.2.1 hy J);refine H ?_;refine bU O O (yP 0 j O O O O (.inl ⟨O,O⟩) (.inr ⟨_,_,O,O⟩) (Nat.zero_le _) hj rW) ?_;refine H ?_;refine aB (CJ O O O O O O O O aK (by intro row hr;obtain⟨_,_,rfl⟩:=List.mem_map.1 hr;rfl) (by first|(simp;omega)|simp) (by first|(simp;omega)|simp) ?_);refine aJ hx ?_;refine H ?_;refine bU O O (dN O O O O O O O O O O aK O) ?_;refine aB (bE 1 O O O O O O O O O O O aK (by intro row hr;first|(simp at hr;subst hr;rfl)|simp at hr) O O aT aT ?_);refine H ?_;refine bU O O (yP j A.length O O O O (.inr ⟨_,_,O,O⟩) (.inl ⟨O,O⟩) hj (aS) rW) ?_;refine H ?_;refine aB (bE 1 O O O O O O O O O O O aK (by intro row hr;obtain⟨_,_,rfl⟩:=List.mem_map.1 hr;rfl) O O (by first|(simp;omega)|simp) (by first|(simp;omega)|simp) ?_)
     (repeat ((fail_if_success (with_reducible refine a8 4 ?_));refine cP O ?_))
     refine aF (Ghost.takeL (k:=51) (t:=3) (A.take j++[x.x]++A.drop j) O O (by rw[List.take_length,List.map_append,List.map_append,List.drop_zero];rfl) O (fun _=>rfl)) ?_;refine H ?_;exact⟨(i+1,A.take j++[x.x]++A.drop j),⟨hlt,hI⟩,by simp only;omega,O,O,congrArg I hw,trivial⟩
  .have hje:j=A.length:=by have:=aH h;omega
   clear h;have hI:=hA.more hx hjl (by rw[hje,List.drop_length];intro z hz;cases hz);refine bQ 16 [31,32,33,34,35,36,37,38,39,40,41,42,43,44,45,46] ?_;refine bP ?_ ?_<;>intro h
   .exfalso;have:=ay h;omega
   clear h;refine H ?_;refine bU O O (yP 0 j O O O O (.inl ⟨O,O⟩) (.inr ⟨_,_,O,O⟩) (Nat.zero_le _) hj rW) ?_;refine H ?_;refine aB (CJ O O O O O O O O aK (by intro row hr;obtain⟨_,_,rfl⟩:=List.mem_map.1 hr;rfl) (by first|(simp;omega)|simp) (by first|(simp;omega)|simp) ?_);refine aJ hx ?_;refine H ?_;refine bU O O (dN O O O O O O O O O O aK O) ?_;refine aB (bE 1 O O O O O O O O O O O aK (by intro row hr;first|(simp at hr;subst hr;rfl)|simp at hr) O O aT aT ?_);refine H ?_;refine bU O O (yP j A.length O O O O (.inr ⟨_,_,O,O⟩) (.inl ⟨O,O⟩) hj (aS) rW) ?_;refine H ?_;refine aB (bE 1 O O O O O O O O O O O aK (by intro row hr;obtain⟨_,_,rfl⟩:=List.mem_map.1 hr;rfl) O O (by first|(simp;omega)|simp) (by first|(simp;omega)|simp) ?_)
   (repeat ((fail_if_success (with_reducible refine a8 4 ?_));refine cP O ?_))
   refine aF (Ghost.takeL (k:=51) (t:=3) (A.take j++[x.x]++A.drop j) O O (by rw[List.take_length,List.map_append,List.map_append,List.drop_zero];rfl) O (fun _=>rfl)) ?_;refine H ?_;exact⟨(i+1,A.take j++[x.x]++A.drop j),⟨hlt,hI⟩,by simp only;omega,O,O,congrArg I hw,trivial⟩
 .have hge:i=l.length:=by have:=aH h;omega
  subst hge;clear h;rw[hA.all];exact bM
def ko (u x:Int):AR:=⟨ofQ ((-u*x:Int):Rat),ofQ (u:Rat)⟩
theorem GL (x:Int):ko 1 x=jG x:=by rw[ko,jG,show(-1*x:Int) = -x by omega]
theorem GK (x:Int):ko (-1) x=pU x:=by rw[ko,pU,show(-(-1)*x:Int)=x by omega]
def lK (P:List Int):Nat->List AR
 |0=>P.map (ko 1)++P.map (ko (-1))
 |1=>P.map (ko (-1))
 |_=>[]
theorem rp (l:List SR):cf l=lK (bt l) 0:=by
 rw[cf,lK];congr 1
 .exact List.map_congr_left fun x _=>(GL x).symm
 .exact List.map_congr_left fun x _=>(GK x).symm
theorem Av (P:List Int){k:Nat}(hk:k<2):lK P k=P.map (ko (1-2*(k:Int)))++lK P (k+1):=by
 match k,hk with
 |0,_=>rfl
 |1,_ =>
  show P.map (ko (-1))=P.map (ko (1-2*((1:Nat):Int)))++[];rw[List.append_nil];rfl
theorem Fq {l:List SR}{k:Nat}(hk:k<2){x:Int}(hx:x∈bt l):ko (1-2*(k:Int)) x∈cf l:=by
 rw[rp]
 match k,hk with
 |0,_=>exact List.mem_append_left _ (List.mem_map.2 ⟨x,hx,rfl⟩)
 |1,_=>exact List.mem_append_right _ (List.mem_map.2 ⟨x,hx,rfl⟩)
set_option maxRecDepth 20000 in
theorem sD (b:BR)(hb:b.Ok):Ret Tryz.prog .shared 49 [.agg (eB b)] (du b):=by
 have w1:=bC 1 ⟨Y,Y⟩;have w0:=bC 0 ⟨Y,Y⟩;have hd:=lN b hb b6 nI Y Y;have ht:=uT b.l (by have:=hb.few.1;omega);have hva0:∀r∈cf b.l,Ret Tryz.prog .shared 105 [.agg (eB b),.agg (eA r)] (.bool (dY b r)):=fun r hr=>lN b hb r (nW hb.chkL hr) Y Y;have hva:∀k:Nat,k<2->∀x∈bt b.l,Ret Tryz.prog .shared 105 [.agg (eB b),.agg (eA (ko (1-2*(k:Int)) x))] (.bool (dY b (ko (1-2*(k:Int)) x))):=fun k hk x hx=>hva0 _ (Fq hk hx);clear hva0;rw[show ig b b6.z.val b6.t.val=dY b b6 from O]at hd;have hrg:∀x∈bt b.l,-1000000<=x/\x<=1000000:=fun x hx=>et hb.chkL hx;have hPl:(bt b.l).length<=1000:=by
  have:=gy b.l;have:=hb.few.1;omega
 generalize hR:du b=R;rw[du,rp]at hR;generalize bt b.l=P at *
 have hml:(P.map eN).length=P.length:=ak;generalize hfn:dY b=fn at *
 clear hfn;obtain⟨w,ba,l⟩:=b;simp only at *
 rw[b6]at *
 by_cases h1:fn ⟨ofQ ((1:Int):Rat),ofQ ((0:Int):Rat)⟩=true
 .rw[if_pos h1]at hR;rw[h1]at hd;subst hR;refine Ret.of_pwp layOk mixed Go.Proofs.Tryz.func49 O Y O O ?_;refine G w1 ?_;refine G w0 ?_;refine ax hd ?_;exact bM
 .rw[if_neg h1]at hR;rw[Bool.not_eq_true]at h1;rw[h1]at hd;refine Ret.of_pwp layOk mixed Go.Proofs.Tryz.func49 O Y O O ?_;refine G w1 ?_;refine G w0 ?_;refine ax hd ?_;refine G ht ?_;refine H ?_;refine ar (fun k:Nat=>k<=2/\(lK P k).find? fn=(lK P 0).find? fn) (fun k=>[(1,.ptr 1 1 0 0),(2,.ptr 2 1 0 0),(5,.sl (P.map eN)),(6,I (1-2*(k:Int)))]) (fun _=>[(1,1,⟨29,6,[eB ⟨w,ba,l⟩],2⟩),(2,1,⟨38,8,[zN++zN],2⟩)]) (fun k=>2-k) 0 ⟨Y,O⟩ ⟨O,O,O,O,O,O,trivial⟩ ?_;intro k s ⟨hk2,hF⟩;refine D ?_ ?_<;>intro h
  .have hk:k<2:=by have:=ay h;omega
   clear h;have hvk:=hva k hk;rw[Av P hk]at hF;have hwk:IntKind.i64.wrap ((1-2*(k:Int))-2)=1-2*((k+1:Nat):Int):=by rw[wrap_i64 J J];omega
   have hu:(1-2*(k:Int))=1\/(1-2*(k:Int)) = -1:=J;generalize hU:1-2*(k:Int)=u at *
   have hn:IntKind.i64.wrap (0-u) = -u:=by rw[wrap_i64 J J];omega
   have wu:=bC u (by rcases hu with rfl|rfl<;>exact⟨Y,Y⟩);refine H ?_;refine ar (fun j:Nat=>j<=P.length/\((P.drop j).map (ko u)++lK P (k+1)).find? fn=(lK P 0).find? fn) (fun j=>[(1,.ptr 1 1 0 0),(2,.ptr 2 1 0 0),(5,.sl (P.map eN)),(6,I u),(7,I (j:Nat))]) (fun _=>[(1,1,⟨29,6,[eB ⟨w,ba,l⟩],2⟩),(2,1,⟨38,8,[zN++zN],2⟩)]) (fun j=>P.length-j) 0 ⟨Nat.zero_le _,by rw[List.drop_zero];exact hF⟩ ⟨O,O,O,O,O,O,O,trivial⟩ ?_;intro j s ⟨hj,hG⟩;refine D ?_ ?_<;>intro h
   .have hlt:j<P.length:=by have:=ay h;omega
    clear h;obtain⟨x,hx⟩:=aO hlt;have hxm:=a_ hx;have hxr:=hrg x hxm;have hrr:=hvk x hxm;have hb2 : -1000000 <= -u*x /\ -u*x<=1000000:=by rcases hu with rfl|rfl<;>omega
    have hm:IntKind.i64.wrap (-u*x) = -u*x:=wrap_i64 J J;have wx:=bC (-u*x) ⟨J,J⟩;have hw:=ej j;have hdr:P.drop j=x::P.drop (j+1):=by
     obtain⟨hl,e⟩:=bu hx;rw[List.drop_eq_getElem_cons hl,e]
    rw[hdr,List.map_cons,List.cons_append,List.find?_cons]at hG;rw[show(ko u x)=⟨ofQ ((-u*x:Int):Rat),ofQ (u:Rat)⟩ from O]at hG hrr;cases hfr:fn ⟨ofQ ((-u*x:Int):Rat),ofQ (u:Rat)⟩ with
    |true =>
     rw[hfr]at hrr hG;simp only at hG;rw[<-hG]at hR;simp only at hR;subst hR;refine H ?_;rw[hn];refine aJ hx ?_;refine H ?_;rw[hm];refine mJ O O O wx O O ?_;refine G wu ?_;refine ax hrr ?_;exact bM
    |false =>
     rw[hfr]at hrr hG;simp only at hG;refine H ?_;rw[hn];refine aJ hx ?_;refine H ?_;rw[hm];refine mJ O O O wx O O ?_;refine G wu ?_;refine ax hrr ?_;refine H ?_;exact⟨j+1,⟨hlt,hG⟩,J,O,O,O,O,congrArg I hw,O,O,trivial⟩
   .have hie:j=P.length:=by have:=aH h;omega
    clear h;rw[hie,List.drop_length,List.map_nil,List.nil_append]at hG;refine H ?_;exact⟨k+1,⟨hk,hG⟩,J,O,O,O,congrArg I hwk,O,O,trivial⟩
  .have hk:k=2:=by have:=aH h;omega
   clear h;subst hk;have hF:none=(lK P 0).find? fn:=hF;rw[<-hF]at hR;simp only at hR;subst hR;exact bM
theorem wO {b:BR}(hb:b.Ok){z t z' t':Rat}(h:(bd b).Bal z t)(h':(bd b).Bal z' t'):cZ b z' t'=cZ b z t:=by
 have h1:=iV hb h;have h2:=iV hb h';cases e:cZ b z t with
 |false =>
  obtain⟨e1,e2⟩:=h1.1 e z' t' h';subst e1 e2;exact e
 |true =>
  cases e':cZ b z' t' with
  |true=>rfl
  |false =>
   obtain⟨e1,e2⟩:=h2.1 e' z t h;subst e1 e2;rw[e]at e';cases e'
set_option maxRecDepth 20000 in
theorem ny (b:BR)(r:AR)(e:Int)(he:e≠0)(h49:Ret Tryz.prog .shared 49 [.agg (eB b)] (.tup [.agg (eA r),I e])):Ret Tryz.prog .shared 14 [.agg (eB b)] (.tup [.agg zS,.agg (eA r),I e]):=by
 refine Ret.of_pwp layOk mixed Go.Proofs.Tryz.func14 O Y O O ?_;refine G h49 ?_;refine D ?_ ?_<;>intro h
 .clear h;refine H ?_;refine bI [2,3] [3,4] aX ?_;exact bM
 .exfalso;simp at h;exact he h
set_option maxRecDepth 20000 in
theorem sE (b:BR)(a:AR)(h49:Ret Tryz.prog .shared 49 [.agg (eB b)] (.tup [.agg (zN++zN),I 0]))(h50:Ret Tryz.prog .shared 50 [.agg (eB b)] (.tup [.agg (eA a),.bool true]))
  (h51:Ret Tryz.prog .shared 51 [.agg (eB b),.agg (eA a)] (.bool true)):Ret Tryz.prog .shared 14 [.agg (eB b)] (.tup [.agg zS,.agg (zN++zN),I 14]):=by
 refine Ret.of_pwp layOk mixed Go.Proofs.Tryz.func14 O Y O O ?_;refine G h49 ?_;refine G h50 ?_;refine ax h51 ?_;exact bM
set_option maxRecDepth 20000 in
theorem xq (b:BR)(a:AR)(F:List RR)(h49:Ret Tryz.prog .shared 49 [.agg (eB b)] (.tup [.agg (zN++zN),I 0]))(h50:Ret Tryz.prog .shared 50 [.agg (eB b)] (.tup [.agg (eA a),.bool true]))
  (h51:Ret Tryz.prog .shared 51 [.agg (eB b),.agg (eA a)] (.bool false)) (h52:Ret Tryz.prog .shared 52 [.sl (b.l.map eS),.agg (eA a)] (.sl (F.map eR))):Ret Tryz.prog .shared 14 [.agg (eB b)] (.tup [.agg (wy a F),.agg (zN++zN),I 0]):=by
 obtain⟨w,ba,l⟩:=b;simp only at *
 refine Ret.of_pwp layOk mixed Go.Proofs.Tryz.func14 O Y O O ?_;refine G h49 ?_;refine G h50 ?_;refine ax h51 ?_;refine H ?_;refine bI [2,3] [7,8] aX ?_;refine G h52 ?_;exact bM
set_option maxRecDepth 20000 in
theorem nw (b:BR)(r:AR)(e:Int)(he:e≠0)(h49:Ret Tryz.prog .shared 49 [.agg (eB b)] (.tup [.agg (eA r),I e])):Ret Tryz.prog .shared 15 [.agg (eB b)] (.tup [.nil,I e]):=by
 refine Ret.of_pwp layOk mixed Go.Proofs.Tryz.func15 O Y O O ?_;refine G h49 ?_;refine D ?_ ?_<;>intro h
 .clear h;exact bM
 .exfalso;simp at h;exact he h
set_option maxRecDepth 20000 in
theorem xo (b:BR)(a:AR)(F:List RR)(h49:Ret Tryz.prog .shared 49 [.agg (eB b)] (.tup [.agg (zN++zN),I 0]))(h50:Ret Tryz.prog .shared 50 [.agg (eB b)] (.tup [.agg (eA a),.bool true]))
  (h52:Ret Tryz.prog .shared 52 [.sl (b.l.map eS),.agg (eA a)] (.sl (F.map eR))):Ret Tryz.prog .shared 15 [.agg (eB b)] (.tup [.sl (F.map eR),I 0]):=by
 obtain⟨w,ba,l⟩:=b;simp only at *
 refine Ret.of_pwp layOk mixed Go.Proofs.Tryz.func15 O Y O O ?_;refine G h49 ?_;refine G h50 ?_;refine G h52 ?_;exact bM
theorem Au (b:BR)(hg:b.Good)(h0:bH b=0):Ret Tryz.prog .shared 14 [.agg (eB b)] (cV b).pv/\Ret Tryz.prog .shared 15 [.agg (eB b)] (.tup [.sl ((dO b).1.map eR),I (dO b).2]):=by
 rw[cV,dO,if_pos h0,if_pos h0];obtain⟨hb,hs,h40⟩:=hg.2 h0;have h93:=sD b hb;rw[du]at h93;by_cases h1:dY b b6=true
 .rw[if_pos h1]at h93;rw[if_pos h1,if_pos h1];exact⟨(ny b b6 12 Y h93).weak (WeakL.refl _) (WeakL.tup (.cons g_.agg (WeakL.refl _))),(nw b b6 12 Y h93).weak (WeakL.refl _) (WeakL.tup (.cons .nil (WeakL.refl _)))⟩
 .rw[if_neg h1]at h93;rw[if_neg h1,if_neg h1];cases h2:(cf b.l).find? (dY b) with
  |some r =>
   rw[h2]at h93;exact⟨(ny b r 13 Y h93).weak (WeakL.refl _) (WeakL.tup (.cons g_.agg (WeakL.refl _))),(nw b r 13 Y h93).weak (WeakL.refl _) (WeakL.tup (.cons .nil (WeakL.refl _)))⟩
  |none =>
   rw[h2]at h93;have hn:=my h1 h2;obtain⟨_,hbal,hz,ht⟩:=lp hb hs hn;obtain⟨a,ha⟩:=FH hb hbal;obtain⟨hab,az,at'⟩:=DQ hb ha;have va:Va ⟨ofQ a.1,ofQ a.2⟩ a.1 a.2 12000 12000:=⟨Vq.ofQ (h:=az),Vq.ofQ (h:=at')⟩;have h50:=xA b hb ha;have h51:=xh b hb ⟨ofQ a.1,ofQ a.2⟩ (ha:=va) Y;have h52:=nu b.l hb.lim.l hb.chkL (by have:=hb.few.1;omega) ⟨ofQ a.1,ofQ a.2⟩ (ha:=va) Y;rw[Az,wO hb hbal hab]at h51;rw[BG hb hbal hab]at h52;refine⟨?_,xo b _ _ h93 h50 h52⟩;dsimp only;cases hl:cZ b (ku b).1 (ku b).2 with
   |true =>
    rw[hl]at h51;exact(sE b _ h93 h50 h51).weak (WeakL.refl _) (WeakL.tup (.cons g_.agg (.cons gY.agg (WeakL.refl _))))
   |false =>
    rw[hl]at h51;obtain⟨u1,u2⟩:=(iV hb hbal).1 hl _ _ hab;rw[eP,u1,u2]at h50;rw[u1,u2]at h51 h52;exact(xq b _ _ h93 h50 h51 h52).weak (WeakL.refl _) (WeakL.tup (.cons (.rfl _) (.cons gY.agg (WeakL.refl _))))
structure SQ.Le (q:SQ):Prop where
 az:q.a.z.le 1000000000
 at':q.a.t.le 1000000000
 rz:q.r.z.le 1000000000
 rt:q.r.t.le 1000000000
 F:∀x∈q.F,x.le 1000000000
 n:q.F.length<=1000000
theorem pT:zA.z.le 1000000000/\zA.t.le 1000000000:=⟨⟨Nat.zero_le _,Nat.zero_le _⟩,⟨Nat.zero_le _,Nat.zero_le _⟩⟩
theorem n3 (r:AR)(e:Int)(h:r.z.le 1000000000/\r.t.le 1000000000):SQ.Le ⟨zA,[],r,e⟩:=⟨pT.1,pT.2,h.1,h.2,fun x hx=>(by cases hx),Nat.zero_le _⟩
theorem Ia {b:BR}(hg:b.Good)(h0:bH b=0):(cV b).Le/\(∀x∈(dO b).1,x.le 1000000000)/\(dO b).1.length<=1000000:=by
 obtain⟨hb,hs,-⟩:=hg.2 h0;have h12:=hb.few.1;have hF:∀z t,HQ z 24000->HQ t 20000->(∀x∈FL b.l z t,x.le 1000000000)/\(FL b.l z t).length<=1000000:=fun z t hz ht=>⟨fun x hx=>by
  have:=Hv hb.lim.l hb.few hz ht x hx
  exact⟨Nat.le_trans this.1 Y,Nat.le_trans this.2 Y⟩,by rw[FL,List.length_map];omega⟩
 cases Iv hg h0 with
 |none r e he hr hv hn k1 k2 =>
  rw[k1,k2];have h1:=hv.z.sz;have h2:=hv.t.sz;exact⟨n3 r e ⟨⟨J,J⟩,⟨J,J⟩⟩,fun x hx=>(by cases hx),Nat.zero_le _⟩
 |loose z t hn hbal hz ht k1 k2 =>
  rw[k1,k2];exact⟨n3 _ _ pT,hF z t hz ht⟩
 |one z t hn hbal hz ht hu k1 k2 =>
  rw[k1,k2];have l1:=dJ hz.ok;have l2:=dJ ht.ok;exact⟨⟨⟨by simp only;omega,by simp only;omega⟩,⟨by simp only;omega,by simp only;omega⟩,pT.1,pT.2,(hF z t hz ht).1,(hF z t hz ht).2⟩,hF z t hz ht⟩
theorem uY (q:SQ)(h:q.Le):Ret Tryz.prog .shared 12 [.agg (wy q.a q.F),.agg (wy q.a q.F)] (.bool true):=by
 have h1:=AM q.a h.az h.at';have h2:=po q.F h.n h.F;clear h;obtain⟨⟨az,at'⟩,F,r,e⟩:=q;simp only at *
 refine Ret.of_pwp layOk mixed Go.Proofs.Tryz.func12 O Y O O ?_;refine ax h1 ?_;refine ax h2 ?_;exact fW
abbrev Str:=List UInt8
def iS {α:Type}:List α->(Nat->α->Int)->Int
 |[],_=>0
 |a::l,f=>if f 0 a=0 then iS l (fun i=>f (i+1)) else f 0 a
theorem oK {α:Type}:∀ {l:List α} {f:Nat->α->Int} {i:Nat} {a:α},l[i]? = some a->f i a≠0->(∀j b,j<i->l[j]? = some b->f j b=0)->iS l f=f i a
 |[],f,i,a,h,_,_=>by simp at h
 |b::l,f,0,a,h,he,_=>by
  simp at h;subst h;simp[iS,he]
 |b::l,f,i+1,a,h,he,hn=>by
  have h0:=hn 0 b J O;rw[iS,if_pos h0];exact oK (f:=fun i=>f (i+1)) (by simpa using h) he fun j c hj hc=>hn (j+1) c J (by simpa using hc)
theorem qz {α:Type}:∀ {l:List α} {f:Nat->α->Int},(∀(j:Nat) b,l[j]? = some b->f j b=0)->iS l f=0
 |[],f,_=>rfl
 |b::l,f,hn=>by
  rw[iS,if_pos (hn 0 b O)];exact qz fun j c hc=>hn (j+1) c (by simpa using hc)
theorem qA {α:Type}:∀ {l:List α} {f:Nat->α->Int},iS l f=0->∀(j:Nat) b,l[j]? = some b->f j b=0
 |[],f,_,j,b,h=>by simp at h
 |a::l,f,h,j,b,hb=>by
  rw[iS]at h;split at h
  .rename_i hz;cases j with
   |zero=>simp at hb;subst hb;exact hz
   |succ j=>exact qA h j b (by simpa using hb)
  .contradiction
def ClearE {α:Type}(l:List α)(f:Nat->α->Int)(k:Nat):Prop:=k<=l.length/\∀j b,j<k->l[j]? = some b->f j b=0
theorem ClearE.zero' {α:Type}{l:List α}{p:Nat->α->Int}:ClearE l p 0:=⟨Nat.zero_le _,fun j b h=>by omega⟩
theorem ClearE.succ {α:Type}{l:List α}{p:Nat->α->Int}{k:Nat}{x:α}(h:ClearE l p k)(hx:l[k]? = some x)(hp:p k x=0):ClearE l p (k+1):=by
 have:=(bu hx).1;refine⟨this,fun j b hj hb=>?_⟩;rcases Nat.lt_or_ge j k with hlt|hge
 .exact h.2 j b hlt hb
 .have:j=k:=J;subst this;rw[hx]at hb;cases hb;exact hp
theorem ClearE.found {α:Type}{l:List α}{p:Nat->α->Int}{k:Nat}{x:α}{e:Int}(h:ClearE l p k)(hx:l[k]? = some x)(hp:p k x=e)(he:e≠0):iS l p=e:=by
 subst hp;exact oK hx he h.2
theorem ClearE.none {α:Type}{l:List α}{p:Nat->α->Int}{k:Nat}(h:ClearE l p k)(hk:¬k<l.length):iS l p=0 :=
 qz fun j b hb=>h.2 j b (by have:=(bu hb).1;have:=h.1;omega) hb
def oV (c:UInt8):Bool:=(decide (97<=(c.toNat:Int))&&decide ((c.toNat:Int)<=122))||(decide (65<=(c.toNat:Int))&&decide ((c.toNat:Int)<=90))
def BD (i:Nat)(c:UInt8):Bool:=!oV c&&(decide ((i:Int)=0)||(!decide ((c.toNat:Int)=45)&&(decide ((c.toNat:Int)<48)||decide (57<(c.toNat:Int)))))
def rI (i:Nat)(c:UInt8):Int:=if BD i c then 1 else 0
def cX (s:Str):Bool:=decide (1<=s.length)&&decide (s.length<=12)&&decide (iS s rI=0)
def HT (c:UInt8):List PV:=[.int .u8 c.toNat]
def aV (n lo hi:Int):Bool:=decide (lo<=n)&&decide (n<=hi)
theorem bz (n lo hi:Int):Ret Tryz.prog .shared 195 [I n,I lo,I hi] (.bool (aV n lo hi)):=by
 refine Ret.of_pwp layOk mixed Go.Proofs.Tryz.func195 O Y O O ?_;refine bP ?_ ?_<;>intro h
 .refine H ?_;exact eW O O (by simp[aV,ay h])
 .refine H ?_;exact eW O O (by simp[aV,h])
theorem co (n lo hi:Int):Ret Tryz.prog .shared 151 [I n,I lo,I hi] (.bool (aV n lo hi)):=by
 refine Ret.of_pwp layOk mixed Go.Proofs.Tryz.func151 O Y O O ?_;refine bP ?_ ?_<;>intro h
 .refine H ?_;exact eW O O (by simp[aV,ay h])
 .refine H ?_;exact eW O O (by simp[aV,h])
theorem kB (s:Str):Ret Tryz.prog .shared 194 [.str s] (.bool (cX s)):=by
 refine Ret.of_pwp layOk mixed Go.Proofs.Tryz.func194 O Y O O ?_
 repeat' (first|refine fH O ?_|refine iC O O (fun h=>?_) (fun h=>?_)|refine iB O O (fun h=>?_) (fun h=>?_)|refine iA O O (fun h=>?_) (fun h=>?_))
 .have:=ay h;exact eW O O (by simp[cX];omega)
 have h1:=aH h;refine bS O ?_ ?_<;>intro h
 .have:=ay h;refine H ?_;exact eW O O (by simp[cX];omega)
 have h2:=aH h;have hll:((s.map HT).length:Int)=s.length:=ak;have hb:s.length<=12:=J;clear h;refine H ?_;refine bU O O (H5 O O O O O O) ?_;refine H ?_;refine ar (ClearE s rI) (fun k=>[(15,.fsl (s.map HT)),(16,I (s.map HT).length),(17,I k)]) (fun _=>[]) (fun k=>s.length-k) 0 .zero' ⟨O,O,O,trivial⟩ ?_;intro k st hk;have hkl:=hk.1;refine D ?_ ?_<;>intro h
 .have hlt:k<s.length:=by simpa using h
  obtain⟨x,hx⟩:=aO hlt;have hkb:k<12:=J;clear h;refine H ?_;refine bU O O (Fm O O O O O J hx O) ?_;repeat (refine ID O ?_ ?_;· repeat' constructor)
  refine C6 100 [(3,I k),(4,.int .u8 x.toNat),(5,.bool (oV x)),(15,.fsl (s.map HT)),(16,I (s.map HT).length),(17,I k)] [] ?_ ?_
  .clear h1 h2 hll hb
   repeat' (first|refine fH O ?_|refine iC O O (fun h=>?_) (fun h=>?_)|refine iB O O (fun h=>?_) (fun h=>?_)|refine iA O O (fun h=>?_) (fun h=>?_))
   all_goals exact⟨O,O,(congrArg PV.bool (by clear hk hx;simp_all [oV]<;>omega)),O,O,O,trivial⟩
  clear h1 h2 hll hb;intro s
  repeat' (first|refine fH O ?_|refine iC O O (fun h=>?_) (fun h=>?_)|refine iB O O (fun h=>?_) (fun h=>?_)|refine iA O O (fun h=>?_) (fun h=>?_))
  all_goals try (refine bS O (fun hc=>?_) (fun hc=>?_))
  all_goals repeat refine fH O ?_
  all_goals first
   |(
    refine eW O O ?_;have hb:rI k x=1:=by simp_all [rI,BD]<;>omega
    have:=hk.found hx hb J
    simp[cX,this])
   |(
    refine⟨k+1,hk.succ hx (by simp_all [rI,BD]<;>omega),J,O,O,?_,trivial⟩
    exact cd J J)
 .refine H ?_;exact eW O O (by simp only[cX,hk.none (by simpa using h)];simp;omega)
theorem oT (l:Str):Ret Tryz.prog .shared 150 [.str l] (.bool (cX l)):=by
 refine Ret.of_pwp layOk mixed Go.Proofs.Tryz.func150 O Y O O ?_
 repeat' (first|refine fH O ?_|refine iC O O (fun h=>?_) (fun h=>?_)|refine iB O O (fun h=>?_) (fun h=>?_)|refine iA O O (fun h=>?_) (fun h=>?_))
 .have:=ay h;exact eW O O (by simp[cX];omega)
 have h1:=aH h;refine bS O ?_ ?_<;>intro h
 .have:=ay h;refine H ?_;exact eW O O (by simp[cX];omega)
 have h2:=aH h;refine H ?_;refine ar (ClearE l rI) (fun k=>[(0,.str l),(3,I k)]) (fun _=>[]) (fun k=>l.length-k) 0 .zero' ⟨O,O,trivial⟩ ?_;intro k s hk;refine D ?_ ?_<;>intro h
 .have hlt:k<l.length:=by simpa using h
  obtain⟨x,hx⟩:=aO hlt;have hget:l.getD k 0=x:=by rw[List.getD_eq_getElem?_getD,hx];rfl
  refine H ?_;refine iD O ⟨J,J⟩ ?_;have hn:((l.getD (Int.toNat (k:Int)) 0).toNat:Int)=x.toNat:=by rw[Int.toNat_natCast,hget]
  rw[hn];have hkb:k<12:=J;clear h hn h1 h2;refine iD O trivial ?_
  ((repeat (first|refine aW ?_ | refine cw ?_ | refine bZ ?_ | refine bY ?_));refine bk ?_)
  refine C6 100 [(0,.str l),(3,I k),(4,.int .u8 x.toNat),(5,.bool (oV x))] [] ?_ ?_
  .repeat' (first|refine fH O ?_|refine iC O O (fun h=>?_) (fun h=>?_)|refine iB O O (fun h=>?_) (fun h=>?_)|refine iA O O (fun h=>?_) (fun h=>?_))
   all_goals exact⟨O,O,O,(congrArg PV.bool (by simp_all [oV]<;>omega)),trivial⟩
  intro s
  repeat' (first|refine fH O ?_|refine iC O O (fun h=>?_) (fun h=>?_)|refine iB O O (fun h=>?_) (fun h=>?_)|refine iA O O (fun h=>?_) (fun h=>?_))
  all_goals try (refine bS O (fun hc=>?_) (fun hc=>?_))
  all_goals repeat refine fH O ?_
  all_goals first
   |(
    refine eW O O ?_;have hb:rI k x=1:=by simp_all [rI,BD]<;>omega
    have:=hk.found hx hb J
    simp[cX,this])
   |(
    refine⟨k+1,hk.succ hx (by simp_all [rI,BD]<;>omega),J,O,?_,trivial⟩
    exact cd J J)
 .refine H ?_;exact eW O O (by simp only[cX,hk.none (by simpa using h)];simp;omega)
structure ST where
 x:Int
 w:Int
 L:List Int
 H0:List Int
def eT (t:ST):List PV:=[I t.x,I t.w,.sl (t.L.map eN),.sl (t.H0.map eN)]
def iZ (t:ST):Int:=if (aV t.x (-1000000) 1000000&&aV t.w 1 100000)=true then 0 else 2
def j0 (t u:ST):Int:=if t.x-u.x<=0 then 10 else if 2*(t.x-u.x)<t.w+u.w then 17 else 0
def kU (L:List Int)(i:Nat)(l:Int):Int:=if aV l 0 100000=true then(if 0<i/\l<=L.getD (i-1) 0 then 10 else 0) else 2
def tT (_:Nat)(h:Int):Int:=if aV h 0 100000=true then 0 else 2
def dD (t:ST):Int:=if aV t.L.length 2 30=true/\(t.H0.length:Int)=(t.L.length:Int)-1 then(if iS t.L (kU t.L)=0 then iS t.H0 tT else iS t.L (kU t.L)) else 11
def jg (t:ST)(u:Option ST):Int:=if iZ t=0 then(match u with
 |none=>dD t
 |some u=>if j0 t u=0 then dD t else j0 t u) else iZ t
theorem pe {t:ST}(h:iZ t=0):(-1000000<=t.x/\t.x<=1000000)/\(1<=t.w/\t.w<=100000):=by
 rw[iZ]at h;split at h
 .rename_i h2;simp[aV]at h2;omega
 .omega
theorem ga {n:Nat}(h:aV (n:Int) 2 30=true):2<=n/\n<=30:=by
 simp[aV]at h;omega
theorem Dp (t:ST):Ret Tryz.prog .shared 152 [.agg (eT t)] (I (iZ t)):=by
 have h1:=co t.x (-1000000) 1000000;have h2:=co t.w 1 100000;rw[iZ];generalize aV t.x (-1000000) 1000000=p at *
 generalize aV t.w 1 100000=q at *
 obtain⟨x,w,L,H0⟩:=t;simp only at *
 cases p
 .refine Ret.of_pwp layOk mixed Go.Proofs.Tryz.func152 O Y O O ?_;refine ax h1 ?_;exact bX
 .cases q;all_goals
   refine Ret.of_pwp layOk mixed Go.Proofs.Tryz.func152 O Y O O ?_;refine ax h1 ?_;refine ax h2 ?_;exact bX
set_option maxRecDepth 20000 in
theorem Ax (t:ST)(hL:t.L.length<=9223372036854775807)(hH:t.H0.length<=9223372036854775807):Ret Tryz.prog .shared 153 [.agg (eT t)] (I (dD t)):=by
 generalize hf:dD t=E;have hml:((t.L.map eN).length:Int)=t.L.length:=ak;have hmh:((t.H0.map eN).length:Int)=t.H0.length:=ak;refine Ret.of_pwp layOk mixed Go.Proofs.Tryz.func153 O Y O O ?_;refine H ?_;rw[hml];refine Gn O O O ?_ ?_<;>intro h
 .have h1:=ay h;clear h;have hE:11=E:=by rw[<-hf,dD,if_neg (fun g=>by have:=ga g.1;omega)]
  subst hE;exact bX
 have h1:=aH h;clear h;refine H ?_;rw[hml];refine Gn O O O ?_ ?_<;>intro h
 .have h2:=ay h;clear h;have hE:11=E:=by rw[<-hf,dD,if_neg (fun g=>by have:=ga g.1;omega)]
  subst hE;exact bX
 have h2:=aH h;clear h;have hwl:IntKind.i64.wrap ((t.L.length:Int)-1)=(t.L.length:Int)-1:=wrap_i64 J J;refine H ?_;rw[hml,hmh,hwl];refine D ?_ ?_<;>intro h
 .have h3:¬(t.H0.length:Int)=(t.L.length:Int)-1:=by simpa using h
  clear h;have hE:11=E:=by rw[<-hf,dD,if_neg (fun g=>by have:=g.2;omega)]
  subst hE;exact bX
 have c2:(t.H0.length:Int)=(t.L.length:Int)-1:=by simpa using h
 clear h;rw[dD,if_pos ⟨by simp[aV];omega,c2⟩]at hf;refine H ?_;refine ar (ClearE t.L (kU t.L)) (fun k=>[(1,.ptr 1 1 0 0),(3,I (k:Nat))]) (fun _=>[(1,1,⟨135,4,[eT t],2⟩)]) (fun k=>t.L.length-k) 0 .zero' ⟨O,O,O,trivial⟩ ?_;intro k s hk;have hkl:=hk.1;refine D ?_ ?_<;>intro h
 .have hlt:k<t.L.length:=by have:=ay h;omega
  clear h;obtain⟨x,hx⟩:=aO hlt;have h1:=co x 0 100000;have hw:=ej k;refine aJ hx ?_;refine ax h1 ?_;by_cases d1:aV x 0 100000=true
  rotate_left
  .have hv:kU t.L k x=2:=by rw[kU,if_neg d1]
   have hfl:=hk.found hx hv Y;have hE:2=E:=by rw[<-hf,hfl];rfl
   subst hE;rw[Bool.not_eq_true]at d1;rw[d1];exact bX
  rw[d1];refine bQ 16 [39,40,41,42,43,44,45,46,47,48,49,50,51,52,53,54] ?_;refine bP ?_ ?_<;>intro h
  rotate_left
  .have h0:k=0:=by have:=aH h;omega
   clear h;have hv:kU t.L k x=0:=by rw[kU,if_pos d1,if_neg J]
   refine H ?_;exact⟨k+1,hk.succ hx hv,J,O,congrArg I hw,O,trivial⟩
  .have h0:0<k:=by have:=ay h;omega
   clear h;obtain⟨j,rfl⟩:∃j,k=j+1:=⟨k-1,J⟩;obtain⟨y,hy⟩:=aO (show j<t.L.length by omega);have hgy:t.L.getD j 0=y:=by rw[List.getD_eq_getElem?_getD,hy];rfl
   have hwj:IntKind.i64.wrap (((j+1:Nat):Int)-1)=(j:Nat):=by rw[wrap_i64 J J];omega
   refine aJ hx ?_;refine H ?_;rw[hwj];refine td O O O O O O O hy O ?_;refine D ?_ ?_<;>intro h
   .have hle:x<=y:=ay h;clear h;have hv:kU t.L (j+1) x=10:=by rw[kU,if_pos d1,if_pos ⟨J,by rw[Nat.add_sub_cancel,hgy];exact hle⟩]
    have hfl:=hk.found hx hv Y;have hE:10=E:=by rw[<-hf,hfl];rfl
    subst hE;exact bX
   .have hle:¬x<=y:=aH h;clear h;have hv:kU t.L (j+1) x=0:=by rw[kU,if_pos d1,if_neg (fun g=>hle (by have:=g.2;rw[Nat.add_sub_cancel,hgy]at this;exact this))]
    refine H ?_;exact⟨j+1+1,hk.succ hx hv,J,O,congrArg I hw,O,trivial⟩
 .have hge:¬k<t.L.length:=by have:=aH h;omega
  clear h;rw[hk.none hge,if_pos O]at hf;refine H ?_;refine ar (ClearE t.H0 tT) (fun k=>[(1,.ptr 1 1 0 0),(4,I (k:Nat))]) (fun _=>[(1,1,⟨135,4,[eT t],2⟩)]) (fun k=>t.H0.length-k) 0 .zero' ⟨O,O,O,trivial⟩ ?_;intro k s hk;have hkl:=hk.1;refine D ?_ ?_<;>intro h
  .have hlt:k<t.H0.length:=by have:=ay h;omega
   clear h;obtain⟨x,hx⟩:=aO hlt;have h1:=co x 0 100000;have hw:=ej k;refine aJ hx ?_;refine ax h1 ?_;by_cases d1:aV x 0 100000=true
   .have hv:tT k x=0:=by rw[tT,if_pos d1]
    rw[d1];refine H ?_;exact⟨k+1,hk.succ hx hv,J,O,congrArg I hw,O,trivial⟩
   .have hv:tT k x=2:=by rw[tT,if_neg d1]
    have hfl:=hk.found hx hv Y;have hE:2=E:=by rw[<-hf,hfl]
    subst hE;rw[Bool.not_eq_true]at d1;rw[d1];exact bX
  .have hge:¬k<t.H0.length:=by have:=aH h;omega
   clear h;rw[hk.none hge]at hf;subst hf;exact bX
set_option maxRecDepth 20000 in
theorem sV (t:ST)(hL:t.L.length<=9223372036854775807)(hH:t.H0.length<=9223372036854775807):Ret Tryz.prog .shared 196 [.agg (eT t),.raw (.pointer none)] (I (jg t none)):=by
 have h1:=bz t.x (-1000000) 1000000;have h2:=bz t.w 1 100000;generalize hf:jg t none=E;cases hp1:aV t.x (-1000000) 1000000 with
 |false =>
  have hE:2=E:=by rw[<-hf,jg,iZ,hp1];rfl
  subst hE;rw[hp1]at h1;refine Ret.of_pwp layOk mixed Go.Proofs.Tryz.func196 O Y O O ?_;refine ax h1 ?_;exact bX
 |true =>
 cases hp2:aV t.w 1 100000 with
 |false =>
  have hE:2=E:=by rw[<-hf,jg,iZ,hp1,hp2];rfl
  subst hE;rw[hp1]at h1;rw[hp2]at h2;refine Ret.of_pwp layOk mixed Go.Proofs.Tryz.func196 O Y O O ?_;refine ax h1 ?_;refine ax h2 ?_;exact bX
 |true =>
 have hpt:iZ t=0:=by rw[iZ,hp1,hp2];rfl
 rw[hp1]at h1;rw[hp2]at h2;rw[jg,if_pos hpt]at hf;refine Ret.of_pwp layOk mixed Go.Proofs.Tryz.func196 O Y O O ?_;refine ax h1 ?_;refine ax h2 ?_;refine H ?_;have hin:=bz t.L.length 2 30;have hml:((t.L.map eN).length:Int)=t.L.length:=ak;have hmh:((t.H0.map eN).length:Int)=t.H0.length:=ak;rw[hml];refine Hq O O O hin O O O ?_;by_cases c1:aV t.L.length 2 30=true
 rotate_left
 .rw[Bool.not_eq_true]at c1;rw[c1];have hE:11=E:=by rw[<-hf,dD,if_neg (by rw[c1];simp)]
  subst hE;exact bX
 obtain⟨g1,g2⟩:=ga c1;have hwl:IntKind.i64.wrap ((t.L.length:Int)-1)=(t.L.length:Int)-1:=wrap_i64 J J;rw[c1];refine H ?_;rw[hml,hmh,hwl];refine D ?_ ?_<;>intro h
 .have hE:11=E:=by rw[<-hf,dD,if_neg (fun g=>absurd g.2 (by simpa using h))]
  subst hE;exact bX
 have c2:(t.H0.length:Int)=(t.L.length:Int)-1:=by simpa using h
 clear h;rw[dD,if_pos ⟨c1,c2⟩]at hf;refine H ?_;rw[hml];refine ar (ClearE t.L (kU t.L)) (fun k=>[(2,.ptr 2 1 0 0),(59,.sl (t.L.map eN)),(60,I t.L.length),(61,I (k:Nat))]) (fun _=>[(2,1,⟨135,4,[eT t],2⟩)]) (fun k=>t.L.length-k) 0 .zero' ⟨O,O,by rw[<-hml];rfl,O,O,trivial⟩ ?_;intro k s hk;have hkl:=hk.1;refine D ?_ ?_<;>intro h
 .have hlt:k<t.L.length:=by have:=ay h;omega
  clear h;obtain⟨x,hx⟩:=aO hlt;have h1:=bz x 0 100000;have hw:=ej k;refine aJ hx ?_;refine ax h1 ?_;by_cases d1:aV x 0 100000=true
  rotate_left
  .have hv:kU t.L k x=2:=by rw[kU,if_neg d1]
   have hfl:=hk.found hx hv Y;have hE:2=E:=by rw[<-hf,hfl];rfl
   subst hE;rw[Bool.not_eq_true]at d1;rw[d1];exact bX
  rw[d1];refine bP ?_ ?_<;>intro h
  rotate_left
  .have h0:k=0:=by have:=aH h;omega
   clear h;have hv:kU t.L k x=0:=by rw[kU,if_pos d1,if_neg J]
   refine H ?_;exact⟨k+1,hk.succ hx hv,J,O,O,O,congrArg I hw,O,trivial⟩
  .have h0:0<k:=by have:=ay h;omega
   clear h;obtain⟨j,rfl⟩:∃j,k=j+1:=⟨k-1,J⟩;obtain⟨y,hy⟩:=aO (show j<t.L.length by omega);have hgy:t.L.getD j 0=y:=by rw[List.getD_eq_getElem?_getD,hy];rfl
   have hwj:IntKind.i64.wrap (((j+1:Nat):Int)-1)=(j:Nat):=by rw[wrap_i64 J J];omega
   refine H ?_;rw[hwj];refine td O O O O O O O hy O ?_;refine D ?_ ?_<;>intro h
   .have hle:x<=y:=ay h;clear h;have hv:kU t.L (j+1) x=10:=by rw[kU,if_pos d1,if_pos ⟨J,by rw[Nat.add_sub_cancel,hgy];exact hle⟩]
    have hfl:=hk.found hx hv Y;have hE:10=E:=by rw[<-hf,hfl];rfl
    subst hE;exact bX
   .have hle:¬x<=y:=aH h;clear h;have hv:kU t.L (j+1) x=0:=by rw[kU,if_pos d1,if_neg (fun g=>hle (by have:=g.2;rw[Nat.add_sub_cancel,hgy]at this;exact this))]
    refine H ?_;exact⟨j+1+1,hk.succ hx hv,J,O,O,O,congrArg I hw,O,trivial⟩
 .have hge:¬k<t.L.length:=by have:=aH h;omega
  clear h;rw[hk.none hge,if_pos O]at hf;refine H ?_;rw[hmh];refine ar (ClearE t.H0 tT) (fun k=>[(2,.ptr 2 1 0 0),(83,.sl (t.H0.map eN)),(84,I t.H0.length),(85,I (k:Nat))]) (fun _=>[(2,1,⟨135,4,[eT t],2⟩)]) (fun k=>t.H0.length-k) 0 .zero' ⟨O,O,by rw[<-hmh];rfl,O,O,trivial⟩ ?_;intro k s hk;have hkl:=hk.1;refine D ?_ ?_<;>intro h
  .have hlt:k<t.H0.length:=by have:=ay h;omega
   clear h;obtain⟨x,hx⟩:=aO hlt;have h1:=bz x 0 100000;have hw:=ej k;refine aJ hx ?_;refine ax h1 ?_;by_cases d1:aV x 0 100000=true
   .have hv:tT k x=0:=by rw[tT,if_pos d1]
    rw[d1];refine H ?_;exact⟨k+1,hk.succ hx hv,J,O,O,O,congrArg I hw,O,trivial⟩
   .have hv:tT k x=2:=by rw[tT,if_neg d1]
    have hfl:=hk.found hx hv Y;have hE:2=E:=by rw[<-hf,hfl]
    subst hE;rw[Bool.not_eq_true]at d1;rw[d1];exact bX
  .have hge:¬k<t.H0.length:=by have:=aH h;omega
   clear h;rw[hk.none hge]at hf;subst hf;exact bX
set_option maxRecDepth 20000 in
theorem sW (t u:ST)(hu:iZ u=0)(hL:t.L.length<=9223372036854775807)(hH:t.H0.length<=9223372036854775807):Ret Tryz.prog .shared 196 [.agg (eT t),.dref (eT u) 0] (I (jg t (some u))):=by
 have h1:=bz t.x (-1000000) 1000000;have h2:=bz t.w 1 100000;generalize hf:jg t (some u)=E;cases hp1:aV t.x (-1000000) 1000000 with
 |false =>
  have hE:2=E:=by rw[<-hf,jg,iZ,hp1];rfl
  subst hE;rw[hp1]at h1;refine Ret.of_pwp layOk mixed Go.Proofs.Tryz.func196 O Y O O ?_;refine ax h1 ?_;exact bX
 |true =>
 cases hp2:aV t.w 1 100000 with
 |false =>
  have hE:2=E:=by rw[<-hf,jg,iZ,hp1,hp2];rfl
  subst hE;rw[hp1]at h1;rw[hp2]at h2;refine Ret.of_pwp layOk mixed Go.Proofs.Tryz.func196 O Y O O ?_;refine ax h1 ?_;refine ax h2 ?_;exact bX
 |true =>
 have hpt:iZ t=0:=by rw[iZ,hp1,hp2];rfl
 rw[hp1]at h1;rw[hp2]at h2;rw[jg,if_pos hpt]at hf;obtain⟨⟨a1,a2⟩,a3,a4⟩:=pe hpt;obtain⟨⟨b1,b2⟩,b3,b4⟩:=pe hu;have k1:IntKind.i64.wrap (t.x-u.x)=t.x-u.x:=wrap_i64 J J;have k2:IntKind.i64.wrap (2*(t.x-u.x))=2*(t.x-u.x):=wrap_i64 J J;have k3:IntKind.i64.wrap (t.w+u.w)=t.w+u.w:=wrap_i64 J J;refine Ret.of_pwp layOk mixed Go.Proofs.Tryz.func196 O Y O O ?_;refine ax h1 ?_;refine ax h2 ?_;refine bQ 8 [22,23,24,25,26,27,28,5] ?_;refine H ?_;rw[k1];refine D ?_ ?_<;>intro h
 .have d1:t.x-u.x<=0:=ay h;clear h;have hb:j0 t u=10:=by rw[j0,if_pos d1]
  have hE:10=E:=by rw[<-hf,hb];rfl
  subst hE;exact bX
 have d1:¬t.x-u.x<=0:=aH h;clear h;refine bQ 11 [33,34,35,36,37,38,39,40,41,42,32] ?_;refine H ?_;rw[k2];refine H ?_;rw[k3];refine D ?_ ?_<;>intro h
 .have d2:2*(t.x-u.x)<t.w+u.w:=ay h;clear h;have hb:j0 t u=17:=by rw[j0,if_neg d1,if_pos d2]
  have hE:17=E:=by rw[<-hf,hb];rfl
  subst hE;exact bX
 have d2:¬2*(t.x-u.x)<t.w+u.w:=aH h;clear h;have hb:j0 t u=0:=by rw[j0,if_neg d1,if_neg d2]
 rw[if_pos hb]at hf;clear k1 k2 k3 a1 a2 a3 a4 b1 b2 b3 b4 hb d1 d2 hu;refine H ?_;have hin:=bz t.L.length 2 30;have hml:((t.L.map eN).length:Int)=t.L.length:=ak;have hmh:((t.H0.map eN).length:Int)=t.H0.length:=ak;rw[hml];refine Hq O O O hin O O O ?_;by_cases c1:aV t.L.length 2 30=true
 rotate_left
 .rw[Bool.not_eq_true]at c1;rw[c1];have hE:11=E:=by rw[<-hf,dD,if_neg (by rw[c1];simp)]
  subst hE;exact bX
 obtain⟨g1,g2⟩:=ga c1;have hwl:IntKind.i64.wrap ((t.L.length:Int)-1)=(t.L.length:Int)-1:=wrap_i64 J J;rw[c1];refine H ?_;rw[hml,hmh,hwl];refine D ?_ ?_<;>intro h
 .have hE:11=E:=by rw[<-hf,dD,if_neg (fun g=>absurd g.2 (by simpa using h))]
  subst hE;exact bX
 have c2:(t.H0.length:Int)=(t.L.length:Int)-1:=by simpa using h
 clear h;rw[dD,if_pos ⟨c1,c2⟩]at hf;refine H ?_;rw[hml];refine ar (ClearE t.L (kU t.L)) (fun k=>[(2,.ptr 2 1 0 0),(59,.sl (t.L.map eN)),(60,I t.L.length),(61,I (k:Nat))]) (fun _=>[(2,1,⟨135,4,[eT t],2⟩)]) (fun k=>t.L.length-k) 0 .zero' ⟨O,O,by rw[<-hml];rfl,O,O,trivial⟩ ?_;intro k s hk;have hkl:=hk.1;refine D ?_ ?_<;>intro h
 .have hlt:k<t.L.length:=by have:=ay h;omega
  clear h;obtain⟨x,hx⟩:=aO hlt;have h1:=bz x 0 100000;have hw:=ej k;refine aJ hx ?_;refine ax h1 ?_;by_cases d1:aV x 0 100000=true
  rotate_left
  .have hv:kU t.L k x=2:=by rw[kU,if_neg d1]
   have hfl:=hk.found hx hv Y;have hE:2=E:=by rw[<-hf,hfl];rfl
   subst hE;rw[Bool.not_eq_true]at d1;rw[d1];exact bX
  rw[d1];refine bP ?_ ?_<;>intro h
  rotate_left
  .have h0:k=0:=by have:=aH h;omega
   clear h;have hv:kU t.L k x=0:=by rw[kU,if_pos d1,if_neg J]
   refine H ?_;exact⟨k+1,hk.succ hx hv,J,O,O,O,congrArg I hw,O,trivial⟩
  .have h0:0<k:=by have:=ay h;omega
   clear h;obtain⟨j,rfl⟩:∃j,k=j+1:=⟨k-1,J⟩;obtain⟨y,hy⟩:=aO (show j<t.L.length by omega);have hgy:t.L.getD j 0=y:=by rw[List.getD_eq_getElem?_getD,hy];rfl
   have hwj:IntKind.i64.wrap (((j+1:Nat):Int)-1)=(j:Nat):=by rw[wrap_i64 J J];omega
   refine H ?_;rw[hwj];refine td O O O O O O O hy O ?_;refine D ?_ ?_<;>intro h
   .have hle:x<=y:=ay h;clear h;have hv:kU t.L (j+1) x=10:=by rw[kU,if_pos d1,if_pos ⟨J,by rw[Nat.add_sub_cancel,hgy];exact hle⟩]
    have hfl:=hk.found hx hv Y;have hE:10=E:=by rw[<-hf,hfl];rfl
    subst hE;exact bX
   .have hle:¬x<=y:=aH h;clear h;have hv:kU t.L (j+1) x=0:=by rw[kU,if_pos d1,if_neg (fun g=>hle (by have:=g.2;rw[Nat.add_sub_cancel,hgy]at this;exact this))]
    refine H ?_;exact⟨j+1+1,hk.succ hx hv,J,O,O,O,congrArg I hw,O,trivial⟩
 .have hge:¬k<t.L.length:=by have:=aH h;omega
  clear h;rw[hk.none hge,if_pos O]at hf;refine H ?_;rw[hmh];refine ar (ClearE t.H0 tT) (fun k=>[(2,.ptr 2 1 0 0),(83,.sl (t.H0.map eN)),(84,I t.H0.length),(85,I (k:Nat))]) (fun _=>[(2,1,⟨135,4,[eT t],2⟩)]) (fun k=>t.H0.length-k) 0 .zero' ⟨O,O,by rw[<-hmh];rfl,O,O,trivial⟩ ?_;intro k s hk;have hkl:=hk.1;refine D ?_ ?_<;>intro h
  .have hlt:k<t.H0.length:=by have:=ay h;omega
   clear h;obtain⟨x,hx⟩:=aO hlt;have h1:=bz x 0 100000;have hw:=ej k;refine aJ hx ?_;refine ax h1 ?_;by_cases d1:aV x 0 100000=true
   .have hv:tT k x=0:=by rw[tT,if_pos d1]
    rw[d1];refine H ?_;exact⟨k+1,hk.succ hx hv,J,O,O,O,congrArg I hw,O,trivial⟩
   .have hv:tT k x=2:=by rw[tT,if_neg d1]
    have hfl:=hk.found hx hv Y;have hE:2=E:=by rw[<-hf,hfl]
    subst hE;rw[Bool.not_eq_true]at d1;rw[d1];exact bX
  .have hge:¬k<t.H0.length:=by have:=aH h;omega
   clear h;rw[hk.none hge]at hf;subst hf;exact bX
structure LR where
 nm:List UInt8
 m:Int
 x:Int
 z:Int
 f:Int
def eLd (w:LR):List PV:=[.str w.nm,I w.m,I w.x,I w.z,I w.f]
structure TQ where
 a:AR
 e:Int
def TQ.pv (q:TQ):PV := .tup [.agg (eA q.a),I q.e]
def E5 (w:LR)(least:Int):Bool:=aV w.m least 1000000000&&aV w.x (-1000000) 1000000&&aV w.z (-100000) 100000&&aV w.f 0 1000000000
def mC (w:LR)(least:Int):Int:=if E5 w least=true then 0 else 2
def fk (w:LR)(before:List LR)(least:Int):Int:=if cX w.nm=true then(if w.nm∈before.map (·.nm) then 5 else mC w least) else 4
theorem nl (w:LR)(least:Int):Ret Tryz.prog .shared 216 [.agg (eLd w),I least] (I (mC w least)):=by
 have h1:=bz w.m least 1000000000;have h2:=bz w.x (-1000000) 1000000;have h3:=bz w.z (-100000) 100000;have h4:=bz w.f 0 1000000000;rw[mC,E5];generalize aV w.m least 1000000000=p1 at *
 generalize aV w.x (-1000000) 1000000=p2 at *
 generalize aV w.z (-100000) 100000=p3 at *
 generalize aV w.f 0 1000000000=p4 at *
 obtain⟨nm,m,x,z,f⟩:=w;simp only at *
 cases p1
 .refine Ret.of_pwp layOk mixed Go.Proofs.Tryz.func216 O Y O O ?_;refine ax h1 ?_;exact bX
 .cases p2
  .refine Ret.of_pwp layOk mixed Go.Proofs.Tryz.func216 O Y O O ?_;refine ax h1 ?_;refine ax h2 ?_;exact bX
  .cases p3
   .refine Ret.of_pwp layOk mixed Go.Proofs.Tryz.func216 O Y O O ?_;refine ax h1 ?_;refine ax h2 ?_;refine ax h3 ?_;exact bX
   .cases p4;all_goals
     refine Ret.of_pwp layOk mixed Go.Proofs.Tryz.func216 O Y O O ?_;refine ax h1 ?_;refine ax h2 ?_;refine ax h3 ?_;refine ax h4 ?_;exact bX
set_option maxRecDepth 20000 in
theorem q8 (w:LR)(B:List LR)(hB:B.length<=1000000)(least:Int):Ret Tryz.prog .shared 154 [.agg (eLd w),.sl (B.map eLd),I least] (I (fk w B least)):=by
 have h0:=oT w.nm;have h1:=co w.m least 1000000000;have h2:=co w.x (-1000000) 1000000;have h3:=co w.z (-100000) 100000;have h4:=co w.f 0 1000000000;have hmB:(B.map eLd).length=B.length:=List.length_map _;generalize hf:fk w B least=E;rw[fk]at hf;obtain⟨nm,m,x,z,f⟩:=w;simp only at *
 refine Ret.of_pwp layOk mixed Go.Proofs.Tryz.func154 O Y O O ?_;refine ax h0 ?_;cases hn:cX nm with
 |false =>
  rw[hn]at hf;subst hf;exact bX
 |true =>
  rw[hn,if_pos O]at hf;refine H ?_;refine ar (fun k:Nat=>k<=B.length/\∀j u,j<k->B[j]? = some u->u.nm≠nm) (fun k=>[(1,.sl (B.map eLd)),(2,I least),(3,.ptr 3 1 0 0),(7,I (k:Nat))]) (fun _=>[(3,1,⟨65,5,[eLd ⟨nm,m,x,z,f⟩],2⟩)]) (fun k=>B.length-k) 0 ⟨Nat.zero_le _,fun j u hj=>absurd hj J⟩ ⟨O,O,O,O,O,trivial⟩ ?_;rintro k s ⟨hk,hall⟩;refine D ?_ ?_<;>intro h
  .have hlt:k<B.length:=by have:=ay h;simp only[hmB]at this;omega
   clear h;obtain⟨u,hu⟩:=aO hlt;have hw:=ej k;refine bQ 8 [18,19,20,21,22,23,24,25] ?_;refine aJ hu ?_;refine D ?_ ?_<;>intro h
   .have he:u.nm=nm:=by simpa using h
    clear h;rw[if_pos (List.mem_map.2 ⟨u,a_ hu,he⟩)]at hf;subst hf;exact bX
   .have he:u.nm≠nm:=by simpa using h
    clear h;refine H ?_;refine⟨k+1,⟨hlt,fun j v hj hv=>?_⟩,J,O,O,O,congrArg I hw,O,trivial⟩;rcases Nat.lt_or_ge j k with g|g
    .exact hall j v g hv
    .rw[show j=k by omega,hu]at hv;cases hv;exact he
  .have hge:k=B.length:=by have:=aH h;simp only[hmB]at this;omega
   clear h;subst hge;rw[if_neg (fun g=>by
    obtain⟨u,hu,he⟩:=List.mem_map.1 g;obtain⟨j,hj⟩:=List.mem_iff_getElem?.1 hu
    exact hall j u (bu hj).1 hj he),mC,E5]at hf
   generalize aV m least 1000000000=p1 at *
   generalize aV x (-1000000) 1000000=p2 at *
   generalize aV z (-100000) 100000=p3 at *
   generalize aV f 0 1000000000=p4 at *
   subst hf;refine ax h1 ?_;cases p1
   .exact bX
   refine ax h2 ?_;cases p2
   .exact bX
   refine ax h3 ?_;cases p3
   .exact bX
   refine ax h4 ?_;cases p4;all_goals
    exact bX
theorem Aj (z k:PV)(row:List PV)(rows:List (List PV)):ic z k (row::rows)=bif vO k row then row.getD 1 z else ic z k rows:=by
 simp only[ic,gm];cases vO k row
 .simp only[cond_false];cases gm k rows<;>rfl
 .rfl
theorem Ai (key v:PV)(row:List PV)(rows:List (List PV)):jt key v (row::rows)=bif vO key row then row.set 1 v::rows else row::jt key v rows:=by
 unfold jt;cases h:vO key row with
 |true=>simp[gm,h]
 |false =>
  simp only[gm,h,cond_false];cases hm:gm key rows with
  |none=>simp
  |some i =>
   have hi:=mB hm;simp[List.getElem?_eq_getElem hi]
theorem AS [Globs]{P:Program}{L:Lay}{s:St}{T:TypeId}{x y v:Operand}{ty:TypeId}{pos:String}{af:Array Edge}{K:St->Prop}(h:POp P L s ⟨none,.mapUpdate T x y v,ty,pos,af,none⟩ K):Sm P L s ⟨none,.insert T x y v,ty,pos,af,none⟩ K:=by
 intro C a w Q hG hs hN;have h2:Oper.wp P ⟨none,.mapUpdate T x y v,ty,pos,af,none⟩ a w (fun a' w'=>∃s',SimE C s' a' w'/\K s') Q:=POp.wp (o:=⟨none,.mapUpdate T x y v,ty,pos,af,none⟩) hG hs hN h fun s' _ _ h' hk=>⟨s',h',hk⟩;exact h2
def Gd (n:Str):List PV:=[.str n,.bool true]
theorem yw (d:Str):∀m:List Str,ic (.bool false) (.str d) (m.map Gd) = .bool (decide (d∈m))
 |[]=>by simp;rfl
 |e::m=>by
  rw[List.map_cons,Aj,yw d m];have:vO (.str d) (Gd e)=decide (e=d):=O;rw[this];by_cases h:e=d
  .have h2:d∈e::m:=by rw[h];exact List.mem_cons_self
   rw[decide_eq_true h,decide_eq_true h2];rfl
  .rw[decide_eq_false h];have:decide (d∈e::m)=decide (d∈m):=by rw[decide_eq_decide,List.mem_cons];exact⟨fun g=>g.resolve_left fun e'=>h e'.symm,.inr⟩
   rw[this];rfl
theorem yt (d:Str):∀m:List Str,d∉m->jt (.str d) (.bool true) (m.map Gd)=(m++[d]).map Gd
 |[],_=>rfl
 |e::m,h=>by
  have h1:¬e=d:=fun g=>h (by simp[g]);have h2:d∉m:=fun g=>h (List.mem_cons_of_mem _ g);rw[List.map_cons,Ai,yt d m h2];have:vO (.str d) (Gd e)=decide (e=d):=O;rw[this,decide_eq_false h1];rfl
theorem tZ (m:List Str):gS .str (m.map Gd)=true:=by
 induction m with
 |nil=>rfl
 |cons e m ih=>rw[List.map_cons];exact ih
structure SHP where
 nm:Str
 len:Int
 st:List ST
 light:LR
 it:List LR
def fR (s:SHP):List PV:=[.str s.nm,I s.len,.sl (s.st.map eT)]++eLd s.light++[.sl (s.it.map eLd)]
def GV (light:LR)(it:List LR)(i:Nat)(w:LR):Int:=fk w (light::it.take i) 0
def kF (s:SHP):Int:=if fk s.light [] 1=0 then(if 60<s.it.length then 8 else iS s.it (GV s.light s.it)) else fk s.light [] 1
set_option maxRecDepth 20000 in
theorem ou (s:SHP)(h1:s.it.length<=9223372036854775807):Ret Tryz.prog .shared 197 [.agg (fR s)] (I (kF s)):=by
 have n0:=kB s.light.nm;have n1:=nl s.light 1;have hmi:(s.it.map eLd).length=s.it.length:=List.length_map _;generalize hf:kF s=E;rw[kF]at hf;have hl:fk s.light [] 1=if cX s.light.nm=true then mC s.light 1 else 4:=by rw[fk];simp
 rw[hl]at hf;clear hl;obtain⟨nm,len,st,light,it⟩:=s;simp only at *
 refine Ret.of_pwp layOk mixed Go.Proofs.Tryz.func197 O Y O O ?_;refine ax n0 ?_;cases hn:cX light.nm with
 |false =>
  rw[hn]at hf;subst hf;exact bX
 |true =>
  rw[hn,if_pos O]at hf;refine ax n1 ?_;by_cases he:mC light 1=0
  rotate_left
  .rw[if_neg he]at hf;generalize mC light 1=e at *
   subst hf;refine D ?_ ?_<;>intro h
   .clear h;exact bX
   .simp at h;exact absurd h he
  rw[if_pos he]at hf;rw[he];refine H ?_;rw[hmi];refine bS O ?_ ?_<;>intro h
  .rw[if_pos (by have:=ay h;omega)]at hf;subst hf;exact bX
  have h60:¬60<it.length:=by have:=aH h;omega
  clear h;rw[if_neg h60]at hf
  ((repeat ((fail_if_success (with_reducible refine a8 8 ?_));refine cP O ?_));refine aQ 4 ?_)
  refine aB (E9 O ?_);iterate 3 refine fH O ?_
  refine aW ?_;refine bg O (AS (CK 0 O O O O O O O O O O O O ?_));refine aU ?_;refine H ?_;rw[hmi];refine b7 [(1,.ptr 1 1 0 0),(4,.mp 23 1),(29,.sl (it.map eLd)),(30,I it.length),(31,I ((0:Nat):Int))] [(1,1,⟨80,9,[fR ⟨nm,len,st,light,it⟩],2⟩),(23,1,⟨239,0,[Gd light.nm],0⟩)] ⟨O,O,O,O,O,O,O,trivial⟩ ?_;intro s0;refine ar (ClearE it (GV light it)) (fun k=>[(1,.ptr 1 1 0 0),(4,.mp 23 1),(29,.sl (it.map eLd)),(30,I it.length),(31,I (k:Nat))]) (fun k=>[(1,1,⟨80,9,[fR ⟨nm,len,st,light,it⟩],2⟩),(23,1,⟨239,0,((light::it.take k).map (·.nm)).map Gd,0⟩)]) (fun k=>it.length-k) 0 .zero' ⟨O,O,O,O,O,O,O,trivial⟩ ?_;intro k s1 hk;have hkl:=hk.1;refine D ?_ ?_<;>intro h
  .have hlt:k<it.length:=by have:=ay h;omega
   clear h;obtain⟨w,hx⟩:=aO hlt;have m0:=kB w.nm;have m1:=nl w 0;have hw:=ej k;have hsn:(light::it.take (k+1)).map (·.nm)=(light::it.take k).map (·.nm)++[w.nm]:=by rw[bG hx];simp
   have hv:GV light it k w=if cX w.nm=true then(if w.nm∈(light::it.take k).map (·.nm) then 5 else mC w 0) else 4:=O
   generalize (light::it.take k).map (·.nm)=D0 at *
   have hlook:=yw w.nm D0;obtain⟨wn,wm,wx,wz,wf⟩:=w;simp only at *
   refine aJ hx ?_;refine ax m0 ?_;cases hn2:cX wn with
   |false =>
    rw[hn2,if_neg Y]at hv;have hfl:=hk.found hx hv Y;rw[hfl]at hf;subst hf;exact bX
   |true =>
    rw[hn2,if_pos O]at hv;refine H ?_;refine bU O O (G4 O O O O O aX O O O O O (tZ _)) ?_;rw[hlook];by_cases hd:wn∈D0
    .rw[if_pos hd]at hv;rw[decide_eq_true hd];have hfl:=hk.found hx hv Y;rw[hfl]at hf;subst hf;exact bX
    .rw[if_neg hd]at hv;rw[decide_eq_false hd];have hput:=yt wn D0 hd;refine H ?_;refine ca (CK 0 O O O O O O O O O (tZ _) O O ?_);refine ax m1 ?_;by_cases hz:mC ⟨wn,wm,wx,wz,wf⟩ 0=0
     rotate_left
     .have hfl:=hk.found hx hv hz;rw[hfl]at hf;generalize mC ⟨wn,wm,wx,wz,wf⟩ 0=e at *
      subst hf;refine D ?_ ?_<;>intro h
      .clear h;exact bX
      .simp at h;exact absurd h hz
     rw[hz]at hv;rw[hz];refine H ?_;refine⟨k+1,hk.succ hx hv,J,O,O,O,O,congrArg I hw,O,?_,trivial⟩;rw[hsn,<-hput];rfl
  .have hge:¬k<it.length:=by have:=aH h;omega
   clear h;rw[hk.none hge]at hf;subst hf;exact bX
def uJ (st:List ST)(i:Nat):Option ST:=if i=0 then none else st[i-1]?
def vR (st:List ST)(i:Nat)(t:ST):Int:=jg t (uJ st i)
def cE (s:SHP):Int:=if cX s.nm=true then(if aV s.len 1 1000000=true/\aV s.st.length 1 40=true then(if iS s.st (vR s.st)=0 then kF s else iS s.st (vR s.st)) else 2) else 4
structure SHP.Len (s:SHP):Prop where
 st:s.st.length<=9223372036854775807
 it:s.it.length<=9223372036854775807
 L:∀t∈s.st,t.L.length<=9223372036854775807/\t.H0.length<=9223372036854775807
theorem sU {t:ST}{u:Option ST}(h:jg t u=0):iZ t=0:=by
 unfold jg at h;split at h
 .assumption
 .assumption
theorem mG {st:List ST}{j:Nat}{u:ST}(h:st[j]? = some u):uJ st (j+1)=some u:=by rw[uJ,if_neg J,Nat.add_sub_cancel,h]
def Er (st:List ST)(i:Nat):PV:=match uJ st i with
 |none => .raw (.pointer none)
 |some u => .dref (eT u) 0
theorem mA {n:Nat}(h:aV (n:Int) 1 40=true):n<=40:=by
 simp[aV]at h;omega
set_option maxRecDepth 20000 in
theorem km (s:SHP)(hs:s.Len):Ret Tryz.prog .shared 148 [.agg (fR s)] (I (cE s)):=by
 have n0:=kB s.nm;have n1:=bz s.len 1 1000000;have n2:=bz s.st.length 1 40;have hml:((s.st.map eT).length:Int)=s.st.length:=ak;have hld:=ou s hs.it;have hL:=hs.L;generalize hf:cE s=E;rw[cE]at hf;generalize kF s=le at *
 obtain⟨nm,len,st,light,it⟩:=s;simp only at *
 refine Ret.of_pwp layOk mixed Go.Proofs.Tryz.func148 O Y O O ?_;refine ax n0 ?_;cases hn:cX nm with
 |false =>
  rw[hn,if_neg Y]at hf;subst hf;exact bX
 |true =>
  rw[hn,if_pos O]at hf;refine ax n1 ?_;cases h1:aV len 1 1000000 with
  |false =>
   rw[h1,if_neg ak]at hf;subst hf;exact bX
  |true =>
   refine H ?_;rw[hml];refine Hq O O O n2 O O O ?_;cases h2:aV st.length 1 40 with
   |false =>
    rw[h2,if_neg ak]at hf;subst hf;exact bX
   |true =>
    have h40:=mA h2;rw[h1,h2,if_pos ⟨O,O⟩]at hf;refine H ?_;rw[hml];refine ar (ClearE st (vR st)) (fun k=>[(1,.ptr 1 1 0 0),(3,Er st k),(23,.sl (st.map eT)),(24,I st.length),(25,I (k:Nat))]) (fun _=>[(1,1,⟨80,9,[fR ⟨nm,len,st,light,it⟩],2⟩)]) (fun k=>st.length-k) 0 .zero' ⟨O,O,O,O,O,O,trivial⟩ ?_;intro k s1 hk;have hkl:=hk.1;refine D ?_ ?_<;>intro h
    .have hlt:k<st.length:=by have:=ay h;omega
     clear h;obtain⟨t,hx⟩:=aO hlt;obtain⟨l1,l2⟩:=hL t (a_ hx);have hw:=ej k;have hnb:PV.dref (eT t) 0=Er st (k+1):=by rw[Er,mG hx]
     have hc:Ret Tryz.prog .shared 196 [.agg (eT t),Er st k] (I (vR st k t)):=by
      cases k with
      |zero=>exact sV t l1 l2
      |succ j =>
       obtain⟨u,hu⟩:=aO (show j<st.length by omega);rw[vR,Er,mG hu];exact sW t u (sU (hk.2 j u J hu)) l1 l2
     have hfb:(Er st k = .raw (.pointer none))\/∃u,Er st k = .dref (eT u) 0:=by
      rw[Er];cases uJ st k with
      |none=>exact .inl rfl
      |some u=>exact .inr ⟨u,rfl⟩
     have hfl:=fun e (h:vR st k t=e) (he:e≠0)=>hk.found hx h he;have hsu:=fun(h:vR st k t=0)=>hk.succ hx h;generalize vR st k t=e at *
     generalize Er st k=bp at *
     rcases hfb with rfl|⟨u,rfl⟩
     .refine aJ hx ?_;refine ax hc ?_;refine D ?_ ?_<;>intro h
      .have he:e≠0:=by simpa using h
       clear h;rw[hfl e O he,if_neg he]at hf;subst hf;exact bX
      .have he:e=0:=by simpa using h
       clear h;refine aJ hx ?_;refine H ?_;exact⟨k+1,hsu he,J,O,hnb,O,O,congrArg I hw,O,trivial⟩
     .refine aJ hx ?_;refine ax hc ?_;refine D ?_ ?_<;>intro h
      .have he:e≠0:=by simpa using h
       clear h;rw[hfl e O he,if_neg he]at hf;subst hf;exact bX
      .have he:e=0:=by simpa using h
       clear h;refine aJ hx ?_;refine H ?_;exact⟨k+1,hsu he,J,O,hnb,O,O,congrArg I hw,O,trivial⟩
    .have hge:¬k<st.length:=by have:=aH h;omega
     clear h;rw[hk.none hge,if_pos O]at hf;subst hf;refine ax hld ?_;exact bX
theorem tE (d:Int):Ret Tryz.prog .shared 200 [I d] (I (if aV d 900 1100=true then 0 else 2)):=by
 have h1:=bz d 900 1100;generalize aV d 900 1100=p at *
 cases p;all_goals
  refine Ret.of_pwp layOk mixed Go.Proofs.Tryz.func200 O Y O O ?_;refine ax h1 ?_;exact bX
theorem lI (d:Int):Ret Tryz.prog .shared 92 [I d] (I (if aV d 900 1100=true then 0 else 2)):=by
 have h1:=co d 900 1100;generalize aV d 900 1100=p at *
 cases p;all_goals
  refine Ret.of_pwp layOk mixed Go.Proofs.Tryz.func92 O Y O O ?_;refine ax h1 ?_;exact bX
def je (s:SHP)(d:Int):Int:=if cE s=0 then(if aV d 900 1100=true then 0 else 2) else cE s
theorem nh (s:SHP)(hs:s.Len)(d:Int):Ret Tryz.prog .shared 157 [.agg (fR s),I d] (I (je s d)):=by
 have h1:=km s hs;have h2:=tE d;rw[je];generalize (if aV d 900 1100=true then(0:Int) else 2)=e2 at *
 generalize cE s=e at *
 by_cases he:e=0
 .subst he;rw[if_pos O];refine Ret.of_pwp layOk mixed Go.Proofs.Tryz.func157 O Y O O ?_;refine ax h1 ?_;refine ax h2 ?_;exact bX
 .rw[if_neg he];refine Ret.of_pwp layOk mixed Go.Proofs.Tryz.func157 O Y O O ?_;refine ax h1 ?_;refine D ?_ ?_<;>intro h
  .clear h;exact bX
  .simp at h;exact absurd h he
set_option maxRecDepth 20000 in
theorem gW (s:SHP)(hs:s.Len):Ret Tryz.prog .shared 89 [.agg (fR s)] (I (cE s)):=by
 have n0:=oT s.nm;have n1:=co s.len 1 1000000;have n2:=co s.st.length 1 40;have hml:((s.st.map eT).length:Int)=s.st.length:=ak;have hmi:((s.it.map eLd).length:Int)=s.it.length:=ak;have hL:=hs.L;have hld0:=q8 s.light [] Y 1;have hld0:Ret Tryz.prog .shared 154 [.agg (eLd s.light),.nil,I 1] (I (fk s.light [] 1)):=hld0.weak (.cons (.rfl _) (.cons .nil (.cons (.rfl _) .nil))) (.rfl _);generalize hf:cE s=E;rw[cE]at hf;have hle:kF s=if fk s.light [] 1=0 then(if 60<s.it.length then 8 else iS s.it (GV s.light s.it)) else fk s.light [] 1:=O
 obtain⟨nm,len,st,light,it⟩:=s;simp only at *
 refine Ret.of_pwp layOk mixed Go.Proofs.Tryz.func89 O Y O O ?_;refine ax n0 ?_;cases hn:cX nm with
 |false =>
  rw[hn,if_neg Y]at hf;subst hf;exact bX
 |true =>
  rw[hn,if_pos O]at hf;refine ax n1 ?_;cases h1:aV len 1 1000000 with
  |false =>
   rw[h1,if_neg ak]at hf;subst hf;exact bX
  |true =>
   refine H ?_;rw[hml];refine Hq O O O n2 O O O ?_;cases h2:aV st.length 1 40 with
   |false =>
    rw[h2,if_neg ak]at hf;subst hf;exact bX
   |true =>
    have h40:=mA h2;rw[h1,h2,if_pos ⟨O,O⟩]at hf;refine H ?_;refine ar (ClearE st (vR st)) (fun k=>[(1,.ptr 1 1 0 0),(3,I (k:Nat))]) (fun _=>[(1,1,⟨80,9,[fR ⟨nm,len,st,light,it⟩],2⟩)]) (fun k=>st.length-k) 0 .zero' ⟨O,O,O,trivial⟩ ?_;intro k s1 hk;have hkl:=hk.1;refine H ?_;rw[hml];refine bS O ?_ ?_<;>intro h
    .have hlt:k<st.length:=by have:=ay h;omega
     clear h;obtain⟨t,hx⟩:=aO hlt;obtain⟨l1,l2⟩:=hL t (a_ hx);have hw:=ej k;have c1:=Dp t;have c2:=Ax t l1 l2;refine aJ hx ?_;refine ax c1 ?_;refine D ?_ ?_<;>intro h
     .have he:iZ t≠0:=by simpa using h
      clear h;have hfl:=hk.found hx (show vR st k t=iZ t by rw[vR,jg.eq_def,if_neg he]) he;rw[hfl,if_neg he]at hf;subst hf;exact bX
     have hpt:iZ t=0:=by simpa using h
     clear h c1;refine bQ 14 [43,44,45,46,47,48,49,50,51,52,53,54,55,56] ?_;refine H ?_;cases k with
     |zero =>
      have hst:vR st 0 t=dD t:=by rw[vR,jg.eq_def,if_pos hpt];rfl
      refine bQ 26 [57,58,59,60,61,62,63,64,65,66,67,68,69,70,71,72,73,74,75,76,77,78,79,80,81,82] ?_;refine ax c2 ?_;refine D ?_ ?_<;>intro h
      .have he:dD t≠0:=by simpa using h
       clear h;rw[hk.found hx hst he,if_neg he]at hf;subst hf;exact bX
      .have he:dD t=0:=by simpa using h
       clear h;rw[he]at hst;refine H ?_;exact⟨0+1,hk.succ hx hst,J,O,congrArg I hw,O,trivial⟩
     |succ j =>
      obtain⟨u,hu⟩:=aO (show j<st.length by omega);have hpu:=sU (hk.2 j u J hu);obtain⟨⟨a1,a2⟩,a3,a4⟩:=pe hpt;obtain⟨⟨b1,b2⟩,b3,b4⟩:=pe hpu;have k1:IntKind.i64.wrap (t.x-u.x)=t.x-u.x:=wrap_i64 J J;have k2:IntKind.i64.wrap (2*(t.x-u.x))=2*(t.x-u.x):=wrap_i64 J J;have k3:IntKind.i64.wrap (t.w+u.w)=t.w+u.w:=wrap_i64 J J;have hwj:IntKind.i64.wrap (((j+1:Nat):Int)-1)=(j:Nat):=by rw[wrap_i64 J J];omega
      have hse:vR st (j+1) t=if j0 t u=0 then dD t else j0 t u:=by rw[vR,jg.eq_def,if_pos hpt,mG hu]
      refine Gn O O O ?_ ?_<;>intro h
      rotate_left
      .exfalso;have:=aH h;omega
      clear h;refine H ?_;rw[hwj];refine td O O O O O O O hu O ?_;refine D ?_ ?_<;>intro h
      .have d1:t.x<=u.x:=ay h;clear h;have hb:j0 t u=10:=by rw[j0,if_pos J]
       rw[hb,if_neg Y]at hse;rw[hk.found hx hse Y,if_neg Y]at hf;subst hf;exact bX
      have d1:¬t.x<=u.x:=aH h;clear h;refine bQ 26 [57,58,59,60,61,62,63,64,65,66,67,68,69,70,71,72,73,74,75,76,77,78,79,80,81,82] ?_;refine bP ?_ ?_<;>intro h
      rotate_left
      .exfalso;have:=aH h;omega
      clear h;refine H ?_;rw[hwj];refine td O O O O O O O hu O ?_;refine H ?_;rw[k1];refine H ?_;rw[k2];refine H ?_;rw[hwj];refine td O O O O O O O hu O ?_;refine H ?_;rw[k3];refine D ?_ ?_<;>intro h
      .have d2:2*(t.x-u.x)<t.w+u.w:=ay h;clear h;have hb:j0 t u=17:=by rw[j0,if_neg J,if_pos d2]
       rw[hb,if_neg Y]at hse;rw[hk.found hx hse Y,if_neg Y]at hf;subst hf;exact bX
      have d2:¬2*(t.x-u.x)<t.w+u.w:=aH h;clear h;have hb:j0 t u=0:=by rw[j0,if_neg J,if_neg d2]
      rw[if_pos hb]at hse;have hst:=hse;refine ax c2 ?_;refine D ?_ ?_<;>intro h
      .have he:dD t≠0:=by simpa using h
       clear h;rw[hk.found hx hst he,if_neg he]at hf;subst hf;exact bX
      .have he:dD t=0:=by simpa using h
       clear h;rw[he]at hst;refine H ?_;exact⟨j+1+1,hk.succ hx hst,J,O,congrArg I hw,O,trivial⟩
    .have hge:¬k<st.length:=by have:=aH h;omega
     clear h;rw[hk.none hge,if_pos O,hle]at hf;refine ax hld0 ?_;refine H ?_;by_cases hz:fk light [] 1=0
     rotate_left
     .rw[if_neg hz]at hf;generalize fk light [] 1=e at *
      subst hf;refine bS O ?_ ?_<;>intro h
      .clear h;exact bX
      .simp at h;exact absurd h hz
     rw[if_pos hz]at hf;rw[hz];refine H ?_;rw[hmi];refine bS O ?_ ?_<;>intro h
     .rw[if_pos (by have:=ay h;omega)]at hf;subst hf;exact bX
     have h60:¬60<it.length:=by have:=aH h;omega
     clear h;rw[if_neg h60]at hf;refine H ?_;refine aB (bb 1 O O O O O O O O O O O aK O ?_);refine H ?_;refine b7 [(1,.ptr 1 1 0 0),(8,.als 100 ((s1.own 100).1+1) 0 ([eLd light]).length),(9,I ((0:Nat):Int))] [(1,1,⟨80,9,[fR ⟨nm,len,st,light,it⟩],2⟩),(100,(s1.own 100).1+1,⟨65,5,[eLd light],1⟩)] ⟨O,O,O,O,O,trivial⟩ ?_;generalize (s1.own 100).1+1=g;intro s2;refine ar (fun q:Nat × Nat=>ClearE it (GV light it) q.1) (fun q=>[(1,.ptr 1 1 0 0),(8,.als 100 q.2 0 ((light::it.take q.1).map eLd).length),(9,I (q.1:Nat))]) (fun q=>[(1,1,⟨80,9,[fR ⟨nm,len,st,light,it⟩],2⟩),(100,q.2,⟨65,5,(light::it.take q.1).map eLd,1⟩)]) (fun q=>it.length-q.1) (0,g) .zero' ⟨O,O,O,O,O,trivial⟩ ?_;rintro⟨k,g⟩ s3 hk2;dsimp only at hk2 ⊢;have hkl:=hk2.1;refine H ?_;rw[hmi];refine bS O ?_ ?_<;>intro h
     .have hlt:k<it.length:=by have:=ay h;omega
      clear h;obtain⟨w,hx⟩:=aO hlt;have hw:=ej k;have hBl:(light::it.take k).length<=61:=by rw[List.length_cons,List.length_take];omega
      have c1:=q8 w (light::it.take k) J 0;have hfl:=hk2.found hx (show GV light it k w=fk w (light::it.take k) 0 from O);have hsu:=fun h=>hk2.succ hx (show GV light it k w=0 from h);have hsn:(light::it.take (k+1)).map eLd=(light::it.take k).map eLd++[eLd w]:=by rw[bG hx];simp
      have hsu:=fun(h:fk w (light::it.take k) 0=0)=>hsu h;generalize fk w (light::it.take k) 0=e at *
      generalize light::it.take k=D0 at *
      refine aJ hx ?_;refine ax c1 ?_;refine D ?_ ?_<;>intro h
      .have he:e≠0:=by simpa using h
       clear h;rw[hfl he]at hf;subst hf;exact bX
      .have he:e=0:=by simpa using h
       clear h;refine aJ hx ?_;refine H ?_;refine aB (bb 1 O O O O O O O O O O O aK O ?_);refine H ?_;refine aB (bE 1 O O O O O O O O O O O aK (by intro row hr;first|(simp at hr;subst hr;rfl)|simp at hr) O O aT aT ?_);refine H ?_;refine⟨(k+1,g+1),hsu he,by simp only;omega,O,?_,congrArg I hw,O,?_,trivial⟩
       .dsimp only;rw[hsn];rfl
       .dsimp only;rw[hsn];rfl
     .have hge:¬k<it.length:=by have:=aH h;omega
      clear h;rw[hk2.none hge]at hf;subst hf;exact bX
end Go.Pv
namespace Go.Proofs
open Go.Shelf
def Tryz.growL_ren:Go.Shelf.Ren:=⟨fun|4=>231|n=>n,fun|22=>78|25=>65|3=>3|4=>4|9=>9|20=>20|0=>0|n=>n,fun|n=>n⟩
theorem Tryz.growL:Go.Proofs.Lays8.n4 Tryz.prog Tryz.growL_ren:={
 mixed:=by kernel_rfl
 f4:=⟨Tryz.f231.name,by decide,Tryz.func231.trans (congrArg some (by kernel_rfl))⟩
 t0:=Tryz.underlying0
 a0:=Tryz.isAgg0
 z0:=Tryz.sizeOf0
 v0:=Tryz.zeroValue0
 t3:=Tryz.underlying3
 a3:=Tryz.isAgg3
 z3:=Tryz.sizeOf3
 v3:=Tryz.zeroValue3
 t4:=Tryz.underlying4
 a4:=Tryz.isAgg4
 z4:=Tryz.sizeOf4
 v4:=Tryz.zeroValue4
 t9:=Tryz.underlying9
 a9:=Tryz.isAgg9
 z9:=Tryz.sizeOf9
 v9:=Tryz.zeroValue9
 t20:=Tryz.underlying20
 a20:=Tryz.isAgg20
 z20:=Tryz.sizeOf20
 v20:=Tryz.zeroValue20
 t22:=Tryz.underlying78
 a22:=Tryz.isAgg78
 z22:=Tryz.sizeOf78
 v22:=Tryz.zeroValue78 }
end Go.Proofs
set_option maxHeartbeats 2000000
namespace Go.Pv
attribute [local irreducible] PWP POps PQuiet PSem aG au am ao
open Go.Proofs Go.RowKit
theorem Ch (n:Nat)(h0:1<=n)(hn:n<=1000000):RetO Tryz.prog 231 [.nil,I (n:Nat)] 65 5 []:=by
 refine⟨⟨_,Go.Proofs.Tryz.func231,Y,O⟩,fun w X args hg hX hl hargs=>?_⟩
 match args,hl with
 |[v0,v1],_ =>
  have e0:v0 = .slice none 0 0:=by
   have:=hargs 0 .nil v0 O O;cases this;rfl
  have e1:v1 = .int .i64 n:=by
   have:=hargs 1 (I (n:Nat)) v1 O O;cases this;rfl
  subst e0 e1;obtain⟨i0,d,hi,_,hs,hby,_,hz⟩:=LRow.spec (layOk 65 _ O);obtain⟨z,hz0,hzs,_,_⟩:=hz _ O;have hs:i0.size=5:=hs;have hby:i0.bytes=48:=hby;have hzs:z.cells.size=5:=hzs;refine(Any8.slices_Grow_grow Tryz.growL i0 z hi hz0 J none 0 0 n [] w (aS) J (by rw[hby];omega) J ak (fun _=>rfl) (fun a h=>by cases h)).mono ?_;rintro e w' ⟨rfl,rfl⟩;have hge:=grownCap_ge w (0+n) 0 65;have hle:=grownCap_le_maxLen w (0+n) 0 65 (by unfold maxLen;omega);refine⟨_,O,?_,.inr ⟨w.heap.size,grownCap w (0+n) 0 65,_,aS,O,bw _ _,Nat.zero_le _,hle,?_,Y,Nat.zero_le _,fun row hr=>(by cases hr),fun i j row c hr=>(by simp at hr)⟩⟩
  .have hb:Below w.heap.size w w.drew:=Below.drew (Below.refl _ _);exact hb.alloc (aS) _
  .rw[Array.size_append,Array.size_append,size_zeroCells,size_zeroCells,hzs];show 0+(0+n-0)*5+(grownCap w (0+n) 0 65-(0+n))*5=grownCap w (0+n) 0 65*5;omega
def HZ:Nat->Nat
 |0=>0
 |_+1=>1
set_option maxRecDepth 20000 in
theorem wd (A B:List LR)(hA:1<=A.length)(hl:A.length+B.length<=1000000):Ret Tryz.prog .shared 217 [.sl ([A,B].map fun l=>[.sl (l.map eLd)])] (.sl ((A++B).map eLd)):=by
 have hg:=Ch (A.length+B.length) J hl;generalize hL:[A,B]=LL;have hLl:LL.length=2:=by rw[<-hL];rfl
 have hml:((LL.map fun l=>[PV.sl (l.map eLd)]).length:Int)=LL.length:=ak;let sm (k:Nat):Nat:=((LL.take k).map List.length).sum;have s0:sm 0=0:=by simp[sm]
 have s2:sm LL.length=A.length+B.length:=by simp only[sm];rw[<-hL];simp
 have hsm:∀k,sm k<=1000000:=fun k=>by
  simp only[sm];rw[<-hL]
  match k with
  |0=>simp
  |1=>simp;omega
  |k+2=>simp;omega
 have hsn:∀k x,LL[k]? = some x->sm (k+1)=sm k+x.length:=fun k x hx=>by
  simp only[sm];rw[bG hx,List.map_append,List.sum_append];simp
 have hrn:∀k x,LL[k]? = some x->((LL.take (k+1)).flatten).map eLd=((LL.take k).flatten).map eLd++x.map eLd:=fun k x hx=>by
  rw[bG hx,List.flatten_append,List.map_append];simp
 have hrl:∀k,(((LL.take k).flatten).map eLd).length=sm k:=fun k=>by simp only[sm];rw[List.length_map,List.length_flatten]
 have hend:LL.flatten=A++B:=by rw[<-hL];simp
 clear_value sm
 refine Ret.of_pwp layOk mixed Go.Proofs.Tryz.func217 O Y O O ?_;refine H ?_;rw[hml];refine ar (fun k:Nat=>k<=LL.length) (fun k=>[(0,.sl (LL.map fun l=>[.sl (l.map eLd)])),(3,I (sm k:Nat)),(9,.sl (LL.map fun l=>[.sl (l.map eLd)])),(10,I LL.length),(11,I (k:Nat))]) (fun _=>[]) (fun k=>LL.length-k) 0 (Nat.zero_le _) ⟨O,by rw[s0];rfl,O,O,O,trivial⟩ ?_;intro k s hk;refine D ?_ ?_<;>intro h
 .have hlt:k<LL.length:=by have:=ay h;omega
  clear h;obtain⟨x,hx⟩:=aO hlt;have hmx:((x.map eLd).length:Int)=x.length:=ak;have hs1:=hsn k x hx;have hs2:=hsm (k+1);have hw:=ej k;have hws:IntKind.i64.wrap (((sm k:Nat):Int)+(x.length:Int))=((sm (k+1):Nat):Int):=by rw[wrap_i64 J J];omega
  refine aJ hx ?_;refine H ?_;rw[hmx,hws];refine H ?_;exact⟨k+1,hlt,J,O,O,O,O,congrArg I hw,trivial⟩
 .have hge:k=LL.length:=by have:=aH h;omega
  clear h;subst hge;rw[s2]
  ((repeat ((fail_if_success (with_reducible refine a8 9 ?_));refine cP O ?_));refine aQ 1 ?_)
  refine fH O ?_;refine aW ?_;refine bg O (DE O hg O aK O ?_);refine aU ?_;refine H ?_;rw[hml];refine b7 [(6,.als 24 ((s.own 24).1+1) 0 0),(25,.sl (LL.map fun l=>[.sl (l.map eLd)])),(26,I LL.length),(27,I ((0:Nat):Int))] [(24,(s.own 24).1+1,⟨65,5,[],0⟩)] ⟨O,O,O,O,O,trivial⟩ ?_;generalize (s.own 24).1+1=g;intro s0;refine ar (fun k:Nat=>k<=LL.length) (fun k=>[(6,.als 24 (g+k) 0 (((LL.take k).flatten).map eLd).length),(25,.sl (LL.map fun l=>[.sl (l.map eLd)])),(26,I LL.length),(27,I (k:Nat))]) (fun k=>[(24,g+k,⟨65,5,((LL.take k).flatten).map eLd,HZ k⟩)]) (fun k=>LL.length-k) 0 (Nat.zero_le _) ⟨O,O,O,O,O,trivial⟩ ?_;intro k s1 hk;refine D ?_ ?_<;>intro h
  .have hlt:k<LL.length:=by have:=ay h;omega
   clear h;obtain⟨x,hx⟩:=aO hlt;have hs1:=hsn k x hx;have hs2:=hsm (k+1);have hr1:=hrn k x hx;have hr2:=hrl k;have hmx:(x.map eLd).length=x.length:=ak;have hw:=ej k;generalize ((LL.take k).flatten).map eLd=R at *
   refine aJ hx ?_;refine H ?_;refine aB (bE 1 O O O O O O O O O O O aK (by intro row hr;obtain⟨_,_,rfl⟩:=List.mem_map.1 hr;rfl) (by cases k<;>rfl) O (by rw[hr2,hmx];show _*48<=_;omega) (by rw[hr2,hmx];omega) ?_);refine H ?_;refine⟨k+1,hlt,J,?_,O,O,congrArg I hw,?_,trivial⟩
   .rw[hr1];rfl
   .rw[hr1];rfl
  .have hge:k=LL.length:=by have:=aH h;omega
   clear h;subst hge;rw[List.take_length,hend,show HZ LL.length=1 by rw[hLl];rfl]
   (repeat ((fail_if_success (with_reducible refine fa ?_));refine cP O ?_))
   refine aF (Ghost.takeD (k:=24) (t:=2) O O O) ?_;exact bM
set_option maxRecDepth 20000 in
theorem Ae (s:SHP)(hl:s.it.length<=100000):Ret Tryz.prog .shared 198 [.agg (fR s)] (.sl ((s.light::s.it).map eLd)):=by
 have hc:=wd [s.light] s.it ak aT;rw[show [s.light]++s.it=s.light::s.it from O]at hc;obtain⟨nm,len,st,light,it⟩:=s;simp only at *
 refine Ret.of_pwp layOk mixed Go.Proofs.Tryz.func198 O Y O O ?_
 ((repeat ((fail_if_success (with_reducible refine a8 1 ?_));refine cP O ?_));refine aQ 5 ?_)
 iterate 2 refine fH O ?_
 refine aB (bb 1 O O O O O O O O O O O aK O ?_);iterate 2 refine fH O ?_
 refine aW ?_;refine bg O (db (Ghost.takeD (k:=5) (t:=5) O O O) (bb 1 O O O O O O O O O O O aK O ?_));refine bg O (db (Ghost.takeD (k:=8) (t:=8) O O O) ?_)
 (refine j3 (dr O (hc) O ?_ O) ?_;.repeat' constructor)
 refine aU ?_;exact bM
open Go.Proofs
theorem i9 (z:Int)(h:i64 z):Ret Tryz.prog .shared 159 [I z] (.agg (eR (ofQ (z:Rat)))):=by
 have ho:=wT z h.1 h.2;have hw:=mX (b9 z) (by have:=lC (z:=z) (by obtain⟨h1,h2⟩:=h;omega);omega);rw[b_]at hw;generalize ofQ (z:Rat)=X at *
 generalize b9 z=Z at *
 refine Ret.of_pwp layOk mixed Go.Proofs.Tryz.func159 O Y O O ?_;refine G ho ?_;refine G hw ?_;exact bM
theorem CQ (x y:RR){p q:Rat}{n m:Nat}[hx:Vq x p n][hy:Vq y q m](hn:n<=20000000)(hm:m<=20000000)(h0:q≠0):Ret Tryz.prog .shared 199 [.agg (eR x),.agg (eR y)] (.agg (eR (ofQ (p/q)))):=by
 have hq:=uO x y hn hm;rw[if_neg h0]at hq;generalize ofQ (p/q)=X at *
 refine Ret.of_pwp layOk mixed Go.Proofs.Tryz.func199 O Y O O ?_;refine G hq ?_;exact bM
structure OkW (w:LR):Prop where
 m:0<=w.m/\w.m<=1000000000
 x : -1000000<=w.x/\w.x<=1000000
 z : -100000<=w.z/\w.z<=100000
 f:0<=w.f/\w.f<=1000000000
theorem CF {w:LR}{l:Int}(hl:0<=l)(h:mC w l=0):OkW w/\l<=w.m:=by
 rw[mC]at h;split at h
 .rename_i h2;simp[E5,aV]at h2;exact⟨⟨J,J,J,J⟩,J⟩
 .omega
def sM (l:List LR):Int:=(l.map (·.m)).sum
def sF (l:List LR):Int:=(l.map (·.f)).sum
def sX (l:List LR):Int:=(l.map fun w=>w.m*w.x).sum
def sZ (l:List LR):Int:=(l.map fun w=>w.m*w.z).sum
theorem CC {m x M X:Int}(hm:0<=m/\m<=M)(hx : -X<=x/\x<=X)(h0:0<=X) : -(M*X)<=m*x/\m*x<=M*X:=by
 have h1:m*x<=m*X:=Int.mul_le_mul_of_nonneg_left hx.2 hm.1;have h2:m*X<=M*X:=Int.mul_le_mul_of_nonneg_right hm.2 h0;have h3:m*(-X)<=m*x:=Int.mul_le_mul_of_nonneg_left hx.1 hm.1;rw[Int.mul_neg]at h3;omega
theorem OkW.mx {w:LR}(h:OkW w):(-1000000000000000<=w.m*w.x/\w.m*w.x<=1000000000000000) /\ -100000000000000<=w.m*w.z/\w.m*w.z<=100000000000000 :=
 ⟨CC h.m h.x Y,CC h.m h.z Y⟩
structure SumOk (l:List LR):Prop where
 m:0<=sM l/\sM l<=l.length*1000000000
 f:0<=sF l/\sF l<=l.length*1000000000
 x : -(l.length*1000000000000000:Int)<=sX l/\sX l<=l.length*1000000000000000
 z : -(l.length*100000000000000:Int)<=sZ l/\sZ l<=l.length*100000000000000
theorem i7:∀ {l:List LR},(∀w∈l,OkW w)->SumOk l
 |[],_=>⟨by simp[sM],by simp[sF],by simp[sX],by simp[sZ]⟩
 |w::l,h=>by
  have ih:=i7 fun u hu=>h u (List.mem_cons_of_mem _ hu);have hw:=h w List.mem_cons_self;obtain⟨⟨a1,a2⟩,a3,a4⟩:=hw.mx;obtain⟨⟨b1,b2⟩,_,_,b3,b4⟩:=hw;obtain⟨⟨c1,c2⟩,⟨c3,c4⟩,⟨c5,c6⟩,c7,c8⟩:=ih;have e1:sM (w::l)=w.m+sM l:=O;have e2:sF (w::l)=w.f+sF l:=O;have e3:sX (w::l)=w.m*w.x+sX l:=O;have e4:sZ (w::l)=w.m*w.z+sZ l:=O;have e5:((w::l).length:Int)=l.length+1:=ak;refine⟨?_,?_,?_,?_⟩
  .rw[e1,e5];omega
  .rw[e2,e5];omega
  .rw[e3,e5];omega
  .rw[e4,e5];omega
theorem vv {l:List LR}{k:Nat}{w:LR}(h:l[k]? = some w):sM (l.take (k+1))=sM (l.take k)+w.m/\sF (l.take (k+1))=sF (l.take k)+w.f/\sX (l.take (k+1))=sX (l.take k)+w.m*w.x/\sZ (l.take (k+1))=sZ (l.take k)+w.m*w.z:=by
 rw[bG h];simp[sM,sF,sX,sZ]
def IN (m:Int)(x z:RR)(f:Int):List PV:=[I m]++eR x++eR z++[I f]
def vC (l:List LR):List PV:=IN (sM l) (ofQ ((sX l:Rat)/(sM l:Rat))) (ofQ ((sZ l:Rat)/(sM l:Rat))) (sF l)
set_option maxRecDepth 20000 in
theorem xW (s:SHP)(L:List LR)(hLe:L=s.light::s.it)(hL:∀w∈L,OkW w)(h1:1<=sM L)(hl:L.length<=61):Ret Tryz.prog .shared 149 [.agg (fR s)] (.agg (vC L)):=by
 have hlo:=Ae s (by
  have:L.length=s.it.length+1:=by rw[hLe];rfl
  omega)
 rw[<-hLe]at hlo;have w0:=i9 0 ⟨Y,Y⟩;have hml:((L.map eLd).length:Int)=L.length:=ak;have hto:=i7 hL;have hne:(sM L:Rat)≠0:=by
  have:sM L≠0:=J
  exact_mod_cast this
 obtain⟨⟨t1,t2⟩,⟨t3,t4⟩,⟨t5,t6⟩,t7,t8⟩:=hto;have zM:Zb (sM L):=aL J J;have zX:Zb (sX L):=aL J J;have zZ:Zb (sZ L):=aL J J;have wM:=i9 (sM L) ⟨J,J⟩;have dX:=CQ (ofQ (sX L:Rat)) (ofQ (sM L:Rat)) (hx:=Vq.ofQ (h:=HQ.int)) (hy:=Vq.ofQ (h:=HQ.int)) Y Y hne;have dZ:=CQ (ofQ (sZ L:Rat)) (ofQ (sM L:Rat)) (hx:=Vq.ofQ (h:=HQ.int)) (hy:=Vq.ofQ (h:=HQ.int)) Y Y hne;have sk:=fun k=>i7 (l:=L.take k) fun w hw=>hL w (List.mem_of_mem_take hw);refine Ret.of_pwp layOk mixed Go.Proofs.Tryz.func149 O Y O O ?_;refine G w0 ?_;refine G w0 ?_;refine G hlo ?_;refine H ?_;rw[hml];refine ar (fun k:Nat=>k<=L.length) (fun k=>[(2,.ptr 2 1 0 0),(3,.ptr 3 1 0 0),(4,.ptr 4 1 0 0),(5,.ptr 5 1 0 0),(11,.sl (L.map eLd)),(12,I L.length),(13,I (k:Nat))]) (fun k=>[(2,1,⟨138,10,[[I 0]++zN++zN++[I 0]],2⟩),(3,1,⟨138,10,[[I (sM (L.take k))]++zN++zN++[I (sF (L.take k))]],2⟩),(4,1,⟨26,4,[eR (ofQ (sX (L.take k):Rat))],2⟩),(5,1,⟨26,4,[eR (ofQ (sZ (L.take k):Rat))],2⟩)]) (fun k=>L.length-k) 0 (Nat.zero_le _) ⟨O,O,O,O,O,O,O,O,O,O,O,trivial⟩ ?_;intro k s1 hk;refine D ?_ ?_<;>intro h
 .have hlt:k<L.length:=by have:=ay h;omega
  clear h;obtain⟨w,hx⟩:=aO hlt;have ow:=hL w (a_ hx);obtain⟨⟨a1,a2⟩,a3,a4⟩:=ow.mx;have hsk:=sk k;have hsk2:=sk (k+1);have hl1:(L.take k).length<=100:=by rw[List.length_take];omega
  have hl2:(L.take (k+1)).length<=100:=by rw[List.length_take];omega
  obtain⟨⟨c1,c2⟩,⟨c3,c4⟩,⟨c5,c6⟩,c7,c8⟩:=hsk;obtain⟨⟨d1,d2⟩,⟨d3,d4⟩,⟨d5,d6⟩,d7,d8⟩:=hsk2;obtain⟨e1,e2,e3,e4⟩:=vv hx;have hw:=ej k;have v1:IntKind.i64.wrap (sM (L.take k)+w.m)=sM (L.take (k+1)):=by rw[wrap_i64 J J];omega
  have v2:IntKind.i64.wrap (sF (L.take k)+w.f)=sF (L.take (k+1)):=by rw[wrap_i64 J J];omega
  have v3:IntKind.i64.wrap (w.m*w.x)=w.m*w.x:=wrap_i64 J J;have v4:IntKind.i64.wrap (w.m*w.z)=w.m*w.z:=wrap_i64 J J;have z1:Zb (sX (L.take k)):=aL J J;have z2:Zb (sZ (L.take k)):=aL J J;have z3:Zb (w.m*w.x):=aL J J;have z4:Zb (w.m*w.z):=aL J J;have u1:=i9 (w.m*w.x) ⟨J,J⟩;have u2:=i9 (w.m*w.z) ⟨J,J⟩;have g1:=fp (ofQ (sX (L.take k):Rat)) (ofQ ((w.m*w.x:Int):Rat)) (hx:=Vq.ofQ (h:=HQ.int)) (hy:=Vq.ofQ (h:=HQ.int)) Y Y;have g2:=fp (ofQ (sZ (L.take k):Rat)) (ofQ ((w.m*w.z:Int):Rat)) (hx:=Vq.ofQ (h:=HQ.int)) (hy:=Vq.ofQ (h:=HQ.int)) Y Y;rw[<-Rat.intCast_add,<-e3]at g1;rw[<-Rat.intCast_add,<-e4]at g2;clear c1 c2 c3 c4 c5 c6 c7 c8 d1 d2 d3 d4 d5 d6 d7 d8 e1 e2 e3 e4 z1 z2 z3 z4 a1 a2 a3 a4 hl1 hl2;refine aJ hx ?_;refine H ?_;rw[v1];refine H ?_;rw[v2];refine bQ 8 [29,30,31,32,33,34,35,36] ?_;refine H ?_;rw[v3];refine mJ O O O u1 O O ?_;refine G g1 ?_;refine bQ 8 [37,38,39,40,41,42,43,44] ?_;refine H ?_;rw[v4];refine mJ O O O u2 O O ?_;refine G g2 ?_;refine H ?_;exact⟨k+1,hlt,J,O,O,O,O,O,O,congrArg I hw,O,O,O,O,trivial⟩
 .have hge:k=L.length:=by have:=aH h;omega
  clear h;subst hge;rw[List.take_length];clear sk hne zM zX zZ;rw[vC];generalize ofQ ((sX L:Rat)/(sM L:Rat))=QX at *
  generalize ofQ ((sZ L:Rat)/(sM L:Rat))=QZ at *
  refine H ?_;refine iE [] [3] 11 [11,12,13] aX aX ?_;refine G wM ?_;refine G dX ?_;refine G wM ?_;refine G dZ ?_;exact bM
theorem lw {α:Type}{l:List α}{f:Nat->α->Int}(h:iS l f=0){i:Nat}{x:α}(hx:l[i]? = some x):f i x=0:=qA h i x hx
structure ShipOk (s:SHP):Prop where
 len:s.st.length<=40
 st:∀i t,s.st[i]? = some t->vR s.st i t=0
 ld:∀w∈s.light::s.it,OkW w
 m:1<=sM (s.light::s.it)
 n:s.it.length<=60
theorem uh {w:LR}{B:List LR}{l:Int}(h:fk w B l=0):mC w l=0:=by
 rw[fk]at h;split at h
 .split at h
  .omega
  .exact h
 .omega
theorem lU {s:SHP}(h:cE s=0):ShipOk s:=by
 rw[cE]at h;split at h
 rotate_left
 .omega
 split at h
 rotate_left
 .omega
 rename_i hin;split at h
 rotate_left
 .contradiction
 rename_i hst;rw[kF]at h;split at h
 rotate_left
 .contradiction
 rename_i hl;split at h
 .omega
 rename_i h60;obtain⟨o1,m1⟩:=CF Y (uh hl);have o2:∀w∈s.it,OkW w:=fun w hw=>by
  obtain⟨i,hi⟩:=List.mem_iff_getElem?.1 hw;exact(CF (Int.le_refl 0) (uh (lw h hi))).1
 have hall:∀w∈s.light::s.it,OkW w:=fun w hw=>by
  rcases List.mem_cons.1 hw with rfl|hw
  .exact o1
  .exact o2 w hw
 refine⟨mA hin.2,fun i t ht=>lw hst ht,hall,?_,J⟩;have:=(i7 o2).m;have e:sM (s.light::s.it)=s.light.m+sM s.it:=O;omega
abbrev IT:List PV:=[I 0]++zN++zN++[I 0]
theorem wK (s:SHP)(hs:s.Len)(he:cE s≠0):Ret Tryz.prog .shared 88 [.agg (fR s)] (.tup [.agg IT,I (cE s)]):=by
 have h1:=km s hs;generalize cE s=e at *
 refine Ret.of_pwp layOk mixed Go.Proofs.Tryz.func88 O Y O O ?_;refine ax h1 ?_;refine D ?_ ?_<;>intro h
 .clear h;exact bM
 .simp at h;exact absurd h he
theorem Ad (s:SHP)(hs:s.Len)(h:cE s=0):Ret Tryz.prog .shared 88 [.agg (fR s)] (.tup [.agg (vC (s.light::s.it)),I 0]):=by
 have h1:=km s hs;have ok:=lU h;have h2:=xW s _ O ok.ld ok.m (by have:=ok.n;simp;omega);rw[h]at h1;rw[vC]at h2 ⊢;generalize ofQ ((sX (s.light::s.it):Rat)/(sM (s.light::s.it):Rat))=QX at *
 generalize ofQ ((sZ (s.light::s.it):Rat)/(sM (s.light::s.it):Rat))=QZ at *
 clear ok;refine Ret.of_pwp layOk mixed Go.Proofs.Tryz.func88 O Y O O ?_;refine ax h1 ?_;refine G h2 ?_;exact bM
theorem Df (s:SHP)(hl:s.it.length<=100000):Ret Tryz.prog .shared 155 [.agg (fR s)] (.sl ((s.light::s.it).map eLd)):=by
 obtain⟨nm,len,st,light,it⟩:=s;simp only at *
 refine Ret.of_pwp layOk mixed Go.Proofs.Tryz.func155 O Y O O ?_;refine H ?_;refine aB (bb 1 O O O O O O O O O O O aK O ?_);refine H ?_;refine aB (bE 1 O O O O O O O O O O O aK (by intro row hr;obtain⟨_,_,rfl⟩:=List.mem_map.1 hr;rfl) O O aT aT ?_)
 (repeat ((fail_if_success (with_reducible refine fa ?_));refine cP O ?_))
 refine aF (Ghost.takeD (k:=5) (t:=2) O O O) ?_;exact bM
set_option maxRecDepth 20000 in
theorem uS (s:SHP)(L:List LR)(hLe:L=s.light::s.it)(hL:∀w∈L,OkW w)(h1:1<=sM L)(hl:L.length<=61):Ret Tryz.prog .shared 90 [.agg (fR s)] (.agg (vC L)):=by
 have hlo:=Df s (by
  have:L.length=s.it.length+1:=by rw[hLe];rfl
  omega)
 rw[<-hLe]at hlo;have w0:=bC 0 ⟨Y,Y⟩;have hml:((L.map eLd).length:Int)=L.length:=ak;have hto:=i7 hL;have hne:(sM L:Rat)≠0:=by
  have:sM L≠0:=J
  exact_mod_cast this
 obtain⟨⟨t1,t2⟩,⟨t3,t4⟩,⟨t5,t6⟩,t7,t8⟩:=hto;have zM:Zb (sM L):=aL J J;have zX:Zb (sX L):=aL J J;have zZ:Zb (sZ L):=aL J J;have wM:=bC (sM L) ⟨J,J⟩;have dX:=mN (ofQ (sX L:Rat)) (ofQ (sM L:Rat)) (hx:=Vq.ofQ (h:=HQ.int)) (hy:=Vq.ofQ (h:=HQ.int)) Y Y hne;have dZ:=mN (ofQ (sZ L:Rat)) (ofQ (sM L:Rat)) (hx:=Vq.ofQ (h:=HQ.int)) (hy:=Vq.ofQ (h:=HQ.int)) Y Y hne;have sk:=fun k=>i7 (l:=L.take k) fun w hw=>hL w (List.mem_of_mem_take hw);refine Ret.of_pwp layOk mixed Go.Proofs.Tryz.func90 O Y O O ?_;refine G hlo ?_;refine G w0 ?_;refine G w0 ?_;refine H ?_;refine ar (fun k:Nat=>k<=L.length) (fun k=>[(2,.ptr 2 1 0 0),(3,.sl (L.map eLd)),(4,.ptr 4 1 0 0),(5,.ptr 5 1 0 0),(6,.ptr 6 1 0 0),(7,I (k:Nat))]) (fun k=>[(2,1,⟨138,10,[[I 0]++zN++zN++[I 0]],2⟩),(4,1,⟨138,10,[[I (sM (L.take k))]++zN++zN++[I (sF (L.take k))]],2⟩),(5,1,⟨26,4,[eR (ofQ (sX (L.take k):Rat))],2⟩),(6,1,⟨26,4,[eR (ofQ (sZ (L.take k):Rat))],2⟩)]) (fun k=>L.length-k) 0 (Nat.zero_le _) ⟨O,O,O,O,O,O,O,O,O,O,trivial⟩ ?_;intro k s1 hk;refine H ?_;rw[hml];refine bS O ?_ ?_<;>intro h
 .have hlt:k<L.length:=by have:=ay h;omega
  clear h;obtain⟨w,hx⟩:=aO hlt;have ow:=hL w (a_ hx);obtain⟨⟨a1,a2⟩,a3,a4⟩:=ow.mx;have hsk:=sk k;have hsk2:=sk (k+1);have hl1:(L.take k).length<=100:=by rw[List.length_take];omega
  have hl2:(L.take (k+1)).length<=100:=by rw[List.length_take];omega
  obtain⟨⟨c1,c2⟩,⟨c3,c4⟩,⟨c5,c6⟩,c7,c8⟩:=hsk;obtain⟨⟨d1,d2⟩,⟨d3,d4⟩,⟨d5,d6⟩,d7,d8⟩:=hsk2;obtain⟨e1,e2,e3,e4⟩:=vv hx;have hw:=ej k;have v1:IntKind.i64.wrap (sM (L.take k)+w.m)=sM (L.take (k+1)):=by rw[wrap_i64 J J];omega
  have v2:IntKind.i64.wrap (sF (L.take k)+w.f)=sF (L.take (k+1)):=by rw[wrap_i64 J J];omega
  have v3:IntKind.i64.wrap (w.m*w.x)=w.m*w.x:=wrap_i64 J J;have v4:IntKind.i64.wrap (w.m*w.z)=w.m*w.z:=wrap_i64 J J;have z1:Zb (sX (L.take k)):=aL J J;have z2:Zb (sZ (L.take k)):=aL J J;have z3:Zb (w.m*w.x):=aL J J;have z4:Zb (w.m*w.z):=aL J J;have u1:=bC (w.m*w.x) ⟨J,J⟩;have u2:=bC (w.m*w.z) ⟨J,J⟩;have g1:=jT (ofQ (sX (L.take k):Rat)) (ofQ ((w.m*w.x:Int):Rat)) (hx:=Vq.ofQ (h:=HQ.int)) (hy:=Vq.ofQ (h:=HQ.int)) Y Y;have g2:=jT (ofQ (sZ (L.take k):Rat)) (ofQ ((w.m*w.z:Int):Rat)) (hx:=Vq.ofQ (h:=HQ.int)) (hy:=Vq.ofQ (h:=HQ.int)) Y Y;rw[<-Rat.intCast_add,<-e3]at g1;rw[<-Rat.intCast_add,<-e4]at g2;clear c1 c2 c3 c4 c5 c6 c7 c8 d1 d2 d3 d4 d5 d6 d7 d8 e1 e2 e3 e4 z1 z2 z3 z4 a1 a2 a3 a4 hl1 hl2;refine bQ 9 [19,20,21,22,23,24,25,26,27] ?_;refine aJ hx ?_;refine H ?_;rw[v1];refine bQ 9 [28,29,30,31,32,33,34,35,36] ?_;refine aJ hx ?_;refine H ?_;rw[v2];refine bQ 14 [37,38,39,40,41,42,43,44,45,46,47,48,49,50] ?_;refine aJ hx ?_;refine aJ hx ?_;refine H ?_;rw[v3];refine mJ O O O u1 O O ?_;refine G g1 ?_;refine bQ 14 [51,52,53,54,55,56,57,58,59,60,61,62,63,64] ?_;refine aJ hx ?_;refine aJ hx ?_;refine H ?_;rw[v4];refine mJ O O O u2 O O ?_;refine G g2 ?_;refine H ?_;exact⟨k+1,hlt,J,O,O,O,O,O,congrArg I hw,O,O,O,O,trivial⟩
 .have hge:k=L.length:=by have:=aH h;omega
  clear h;subst hge;rw[List.take_length];clear sk hne zM zX zZ;rw[vC];generalize ofQ ((sX L:Rat)/(sM L:Rat))=QX at *
  generalize ofQ ((sZ L:Rat)/(sM L:Rat))=QZ at *
  refine H ?_;refine iE [] [4] 11 [11,12,13] aX aX ?_;refine G wM ?_;refine G dX ?_;refine G wM ?_;refine G dZ ?_;exact bM
theorem Gt (a b:Nat):Int.tdiv (a:Int) (b:Int)=((a/b:Nat):Int):=by rw[Int.ofNat_tdiv]
theorem It (a b:Nat)(hb:0<b):ofQ ((a:Rat)/(b:Rat))=⟨b9 ((a/Nat.gcd a b:Nat):Int),b9 ((b/Nat.gcd a b:Nat):Int)⟩:=by
 obtain⟨e1,e2,e3⟩:=nS (a:Int) (b:Int) J;have c1:((a:Int):Rat)=(a:Rat):=O;have c2:((b:Int):Rat)=(b:Rat):=O;rw[c1,c2]at e1 e2 e3;have hn:¬((a:Rat)/(b:Rat)).num<0:=fun h=>by
  rcases e3.1 h with h|h<;>omega
 have h1:((a:Rat)/(b:Rat)).num=((a/Nat.gcd a b:Nat):Int):=by
  have:((a:Rat)/(b:Rat)).num.natAbs=a/Nat.gcd a b:=e1;omega
 have h2:((a:Rat)/(b:Rat)).den=b/Nat.gcd a b:=e2;have h3:∀n:Nat,b9 (n:Int)=⟨false,aD n⟩:=fun n=>by
  rw[b9,decide_eq_false J];rfl
 rw[ofQ,h1,h2,h3 (b/_)]
set_option maxRecDepth 20000 in
theorem Es (d:Nat)(h1:1<=d)(h2:d<=1000000000):Ret Tryz.prog .shared 42 [I (d:Nat),I 1000000000] (.agg (eR (ofQ ((d:Rat)/1000000000)))):=by
 have hq:=It d 1000000000 Y;have e0:((1000000000:Nat):Rat)=1000000000:=by rfl
 rw[e0]at hq;have hgp:0<Nat.gcd d 1000000000:=Nat.gcd_pos_of_pos_left _ J;have hb1:=Nat.div_le_self d (Nat.gcd d 1000000000);have hb2:=Nat.div_le_self 1000000000 (Nat.gcd d 1000000000);rw[hq];generalize hA:d/Nat.gcd d 1000000000=A at *
 generalize hB:1000000000/Nat.gcd d 1000000000=B at *
 have k1:=mg (A:Int) ⟨J,J⟩;have k2:=mg (B:Int) ⟨J,J⟩;generalize hX:b9 (A:Int)=X at *
 generalize hY:b9 (B:Int)=Y0 at *
 generalize hG:Nat.gcd d 1000000000=G0 at *
 refine Ret.of_pwp layOk mixed Go.Proofs.Tryz.func42 O Y O O ?_;refine H ?_;refine ar (fun q:Nat × Nat=>q.1<=1000000000/\q.2<=1000000000/\Nat.gcd q.1 q.2=G0) (fun q=>[(0,I (d:Nat)),(1,I 1000000000),(4,.ptr 4 1 0 0),(5,I (q.1:Nat)),(6,I (q.2:Nat))]) (fun _=>[(4,1,⟨26,4,[zN],2⟩)]) (fun q=>q.2) (d,1000000000) ⟨h2,aS,hG⟩ ⟨O,O,O,O,O,O,trivial⟩ ?_;rintro⟨x,y⟩ s ⟨hx,hy,hg⟩;simp only at hx hy hg;dsimp only;refine D ?_ ?_<;>intro h
 .have hy0:0<y:=by have:=ay h;omega
  clear h;have hm:=Nat.mod_lt x hy0;refine H ?_;refine bI [] [] aX ?_;refine H ?_;refine bU O O (QOp.v O (show ¬((y:Nat):Int)=0 by omega)) ?_;rw[jE];refine H ?_;exact⟨(y,x%y),⟨hy,by simp only;omega,by simp only;rw[Nat.gcd_comm,<-Nat.gcd_rec,Nat.gcd_comm];exact hg⟩,hm,O,O,O,O,O,O,trivial⟩
 .have hy0:y=0:=by have:=aH h;omega
  subst hy0;clear h;rw[Nat.gcd_zero_right]at hg;subst hg;have q1:IntKind.i64.wrap (Int.tdiv (d:Int) (x:Int))=(A:Int):=by rw[Gt,hA,wrap_i64 J J]
  have q2:IntKind.i64.wrap (Int.tdiv 1000000000 (x:Int))=(B:Int):=by
   have:=Gt 1000000000 x;rw[show((1000000000:Nat):Int)=1000000000 from O]at this;rw[this,hB,wrap_i64 J J]
  refine bQ 9 [25,26,27,28,29,30,31,32,33] ?_;refine H ?_;refine bU O O (QOp.v O (show ¬((x:Nat):Int)=0 by omega)) ?_;rw[q1];refine G k1 ?_;refine H ?_;refine bU O O (QOp.v O (show ¬((x:Nat):Int)=0 by omega)) ?_;rw[q2];refine G k2 ?_;exact bM
theorem HR (d:Nat)(h2:d<=1000000000):HQ ((d:Rat)/1000000000) 8:=by
 have zd:Zb (d:Int):=aL J J;have zb:Zb (1000000000:Int):=aL Y Y;exact @HQ.div _ _ 4 4 (HQ.int (z:=(d:Int))) (HQ.int (z:=1000000000))
theorem AA (x:RR){p:Rat}{n:Nat}[hx:Vq x p n](hn:n<=1000000)(d:Nat)(h1:1<=d)(h2:d<=1000000000):Ret Tryz.prog .shared 161 [.agg (eR x),I (d:Nat)] (.agg (eR (ofQ (p*((d:Rat)/1000000000))))):=by
 have c1:=Es d h1 h2;have c2:=q9 x (ofQ ((d:Rat)/1000000000)) (hx:=hx) (hy:=Vq.ofQ (h:=HR d h2)) J Y;generalize ofQ ((d:Rat)/1000000000)=D0 at *
 generalize ofQ (p*((d:Rat)/1000000000))=E at *
 obtain⟨⟨xn,xl⟩,⟨yn,yl⟩⟩:=x;refine Ret.of_pwp layOk mixed Go.Proofs.Tryz.func161 O Y O O ?_;refine bQ 4 [5,6,7,8] ?_;refine G c1 ?_;refine G c2 ?_;exact bM
set_option maxRecDepth 20000 in
theorem xV (x y:RR){p q:Rat}{n m:Nat}(hx:Vq x p n)(hy:Vq y q m)(hn:n<=1000000)(hm:m<=1000000):Ret Tryz.prog .shared 201 [.sl ([x,y].map eR)] (.agg (eR (ofQ (p*q)))):=by
 have w1:=i9 1 ⟨Y,Y⟩;have z1:Zb 1:=aL Y Y;have c1:=gu (ofQ ((1:Int):Rat)) x (hx:=Vq.ofQ (h:=HQ.int)) (hy:=hx) Y J;rw[show((1:Int):Rat)=1 from O,Rat.one_mul]at c1;rw[show((1:Int):Rat)=1 from O]at w1;have c2:=gu (ofQ p) y (hx:=Vq.ofQ (h:=hx.hq)) (hy:=hy) J J;have g0:([x,y]:List RR)[0]? = some x:=O;have g1:([x,y]:List RR)[1]? = some y:=O;generalize hl:[x,y]=l at *
 have hll:l.length=2:=by rw[<-hl];rfl
 have hml:((l.map eR).length:Int)=2:=by rw[<-hl];rfl
 generalize ofQ (p*q)=E at *
 generalize ofQ p=P at *
 generalize ofQ (1:Rat)=O0 at *
 clear hx hy hl;refine Ret.of_pwp layOk mixed Go.Proofs.Tryz.func201 O Y O O ?_;refine G w1 ?_;refine H ?_;rw[hml];refine ar (fun k:Nat=>k<=2) (fun k=>[(2,.ptr 2 1 0 0),(3,.ptr 3 1 0 0),(7,.sl (l.map eR)),(8,I 2),(9,I (k:Nat))]) (fun k=>[(2,1,⟨26,4,[zN],2⟩),(3,1,⟨26,4,[eR (if k=0 then O0 else if k=1 then P else E)],2⟩)]) (fun k=>2-k) 0 (Nat.zero_le _) ⟨O,O,O,O,O,O,O,trivial⟩ ?_;intro k s hk;refine D ?_ ?_<;>intro h
 .have hlt:k<2:=by have:=ay h;omega
  clear h
  match k,hlt with
  |0,_ =>
   refine H ?_;refine bU O O (mI (n:=((((0:Nat):Int)):Int)) O O O O O J g0 O) ?_;refine G c1 ?_;refine H ?_;exact⟨1,Y,Y,O,O,O,O,O,O,O,trivial⟩
  |1,_ =>
   refine H ?_;refine bU O O (mI (n:=((((1:Nat):Int)):Int)) O O O O O J g1 O) ?_;refine G c2 ?_;refine H ?_;exact⟨2,Y,Y,O,O,O,O,O,O,O,trivial⟩
 .have hge:k=2:=by have:=aH h;omega
  clear h;subst hge;exact bM
set_option maxRecDepth 20000 in
theorem Ag (x:RR){p:Rat}{n:Nat}[hx:Vq x p n](hn:n<=1000)(d:Nat)(h1:1<=d)(h2:d<=1000000000):Ret Tryz.prog .shared 158 [.agg (eR x),I (d:Nat)] (.agg (eR (ofQ (p*((d:Rat)/1000000000))))):=by
 have zd:Zb (d:Int):=aL J J;have zb:Zb (1000000000:Int):=aL Y Y;have w1:=i9 (d:Int) ⟨J,J⟩;have w2:=i9 1000000000 ⟨Y,Y⟩;have c1:=xV x (ofQ ((d:Int):Rat)) hx (Vq.ofQ (h:=HQ.int)) J Y;have hp:HQ (p*((d:Int):Rat)) (n+1+4):=@HQ.mul _ _ (n+1) 4 hx.hq HQ.int;have c2:=CQ (ofQ (p*((d:Int):Rat))) (ofQ ((1000000000:Int):Rat)) (hx:=Vq.ofQ (h:=hp)) (hy:=Vq.ofQ (h:=HQ.int)) J Y aX;have e:p*((d:Int):Rat)/((1000000000:Int):Rat)=p*((d:Rat)/1000000000):=by
  rw[show((d:Int):Rat)=(d:Rat) from O,show((1000000000:Int):Rat)=1000000000 from O];grind
 rw[e]at c2;generalize ofQ (p*((d:Rat)/1000000000))=E at *
 generalize ofQ (p*((d:Int):Rat))=T at *
 generalize ofQ ((d:Int):Rat)=D0 at *
 generalize ofQ ((1000000000:Int):Rat)=B at *
 clear hx hp;obtain⟨⟨xn,xl⟩,⟨yn,yl⟩⟩:=x;refine Ret.of_pwp layOk mixed Go.Proofs.Tryz.func158 O Y O O ?_;refine H ?_;refine yN ?_;iterate 3 all_goals ((first
  |refine ef (i:=0) aX rfl ?_
  |refine ef (i:=1) aX rfl ?_
  |refine ef (i:=2) aX rfl ?_
  |refine i2 (i:=0) (j:=1) aX rfl rfl ?_ ?_
  |refine i2 (i:=0) (j:=2) aX rfl rfl ?_ ?_)<;>(refine aU ?_;(first|refine fH rfl ?_ | (apply bU;exact rfl;exact rfl;exact Is rfl w1 rfl rfl));refine aW ?_))
 all_goals
  refine ef (i:=3) aX O ?_;refine aU ?_;refine aB (bb 1 O O O O O O O O O O O aK O ?_);refine aW ?_;refine ef (i:=4) aX O ?_;refine bg O (db (Ghost.takeD (k:=8) (t:=8) O O O) ?_)
  (refine j3 (dr O (c1) O ?_ O) ?_;.repeat' constructor)
  refine aU ?_;refine aW ?_;refine ef (i:=5) aX O ?_;refine aU ?_;refine mJ O O O w2 O O ?_;refine aW ?_;refine ef (i:=6) aX O ?_;refine aU ?_;refine mJ O O O c2 O O ?_;refine aW ?_;refine ef (i:=7) aX O ?_;refine aU ?_;refine fH O ?_;refine aW ?_;refine⟨by decide +kernel,bZ ?_⟩;exact bM
structure StOk (t:ST):Prop where
 x : -1000000<=t.x/\t.x<=1000000
 w:1<=t.w/\t.w<=100000
 n:2<=t.L.length/\t.L.length<=30
 h:t.H0.length+1=t.L.length
 L:∀l∈t.L,0<=l/\l<=100000
 H0:∀h∈t.H0,0<=h/\h<=100000
 asc:∀i a b,t.L[i]? = some a->t.L[i+1]? = some b->a<b
theorem r7 {n lo hi:Int}(h:aV n lo hi=true):lo<=n/\n<=hi:=by
 simp[aV]at h;exact h
theorem DR {t:ST}{u:Option ST}(h:jg t u=0):StOk t:=by
 have hp:=sU h;have hf:dD t=0:=by
  unfold jg at h;rw[if_pos hp]at h;split at h
  .exact h
  .split at h
   .exact h
   .contradiction
 obtain⟨p1,p2⟩:=pe hp;rw[dD]at hf;split at hf
 rotate_left
 .omega
 rename_i hn;obtain⟨n1,n2⟩:=ga hn.1;split at hf
 rotate_left
 .contradiction
 rename_i hl;have lv:∀i l,t.L[i]? = some l->aV l 0 100000=true/\¬(0<i/\l<=t.L.getD (i-1) 0):=fun i l hi=>by
  have:=lw hl hi;rw[kU]at this;split at this
  .rename_i g;split at this
   .omega
   .rename_i g2;exact⟨g,g2⟩
  .omega
 refine⟨p1,p2,⟨n1,n2⟩,J,fun l hm=>?_,fun x hm=>?_,fun i a b ha hb=>?_⟩
 .obtain⟨i,hi⟩:=List.mem_iff_getElem?.1 hm;exact r7 (lv i l hi).1
 .obtain⟨i,hi⟩:=List.mem_iff_getElem?.1 hm;have:=lw hf hi;rw[tT]at this;split at this
  .rename_i g;exact r7 g
  .omega
 .have h2:=(lv (i+1) b hb).2;rw[Nat.add_sub_cancel,List.getD_eq_getElem?_getD,ha]at h2;have h2:¬(0<i+1/\b<=a):=h2;omega
def yZ (d:Nat)(w h:Int):RR:=ofQ (((2*h*w:Int):Rat)*((d:Rat)/1000000000))
def sQ (d:Nat)(t:ST):List RR:=t.H0.map (yZ d t.w)++[ofQ 0]
def qb (d:Nat)(t:ST):SR:=⟨t.x,ofQ 0,⟨t.L,sQ d t⟩⟩
def eM (d:Nat)(l:List ST):List SR:=l.map (qb d)
theorem vz {d:Nat}{l:List ST}{k:Nat}{t:ST}(h:l[k]? = some t):(eM d (l.take (k+1))).map eS=(eM d (l.take k)).map eS++[eS (qb d t)]:=by rw[bG h,eM,eM,List.map_append,List.map_append];rfl
theorem s9 {h w:Int}(a:0<=h/\h<=100000)(b:1<=w/\w<=100000):0<=2*h*w/\2*h*w<=20000000000:=by
 have h1:2*h*w<=2*h*100000:=Int.mul_le_mul_of_nonneg_left b.2 J;have h2:0<=2*h*w:=Int.mul_nonneg J J;omega
theorem zD (l:List Int)(hl:l.length<=1000000000):Ret Tryz.prog .fresh 160 [.sl (l.map eN)] (.sl (l.map eN)):=by
 refine Ret.of_pwp layOk mixed Go.Proofs.Tryz.func160 O Y O O ?_;refine H ?_;refine aB (bb 0 O O O O O O O O O O O aK O ?_);refine H ?_;refine aB (bE 1 O O O O O O O O O O O aK (by intro row hr;obtain⟨p,_,rfl⟩:=List.mem_map.1 hr;rfl) O O aT aT ?_)
 (repeat ((fail_if_success (with_reducible refine fa ?_));refine cP O ?_))
 refine aF (Ghost.takeF (k:=3) (t:=2) l O O O O (fun _=>rfl)) ?_;refine H ?_;exact qp O O O aK O
set_option maxRecDepth 20000 in
theorem sY (s:SHP)(hs:s.Len)(d:Int)(he:je s d≠0):Ret Tryz.prog .shared 91 [.agg (fR s),I d] (.tup [.nil,I (je s d)]):=by
 have h1:=nh s hs d;generalize je s d=e at *
 refine Ret.of_pwp layOk mixed Go.Proofs.Tryz.func91 O Y O O ?_;refine ax h1 ?_;refine D ?_ ?_<;>intro h
 .clear h;exact bM
 .simp at h;exact absurd h he
set_option maxRecDepth 20000 in
theorem vA (s:SHP)(hs:s.Len)(d:Nat)(he:je s (d:Int)=0)(hd1:1<=d)(hd2:d<=1000000000)(hk:∀t∈s.st,StOk t)(h40:s.st.length<=40):Ret Tryz.prog .shared 91 [.agg (fR s),I (d:Nat)] (.tup [.sl ((eM d s.st).map eS),I 0]):=by
 have h1:=nh s hs (d:Int);rw[he]at h1;have w0:=i9 0 ⟨Y,Y⟩;rw[show(((0:Int):Rat))=0 from O]at w0;have hml:((s.st.map eT).length:Int)=s.st.length:=ak;obtain⟨nm,len,st,light,it⟩:=s;simp only at *
 clear he hs;refine Ret.of_pwp layOk mixed Go.Proofs.Tryz.func91 O Y O O ?_;refine ax h1 ?_
 (repeat ((fail_if_success (with_reducible refine a8 5 ?_));refine cP O ?_))
 refine aF (Ghost.nilreg (k:=1007) (t:=7) 71 7 1 O O) ?_;refine H ?_;rw[hml];refine ar (fun i:Nat=>i<=st.length) (fun i=>[(1,I (d:Nat)),(2,.ptr 2 1 0 0),(7,.als 1007 (1+i) 0 ((eM d (st.take i)).map eS).length),(20,.sl (st.map eT)),(21,I st.length),(22,I (i:Nat))]) (fun i=>[(2,1,⟨80,9,[fR ⟨nm,len,st,light,it⟩],2⟩),(1007,1+i,⟨71,7,(eM d (st.take i)).map eS,1⟩)]) (fun i=>st.length-i) 0 (Nat.zero_le _) ⟨O,O,O,O,O,O,O,O,trivial⟩ ?_;intro i s hi;refine D ?_ ?_<;>intro h
 .have hlt:i<st.length:=by have:=ay h;omega
  clear h;obtain⟨t,hx⟩:=aO hlt;have ok:=hk t (a_ hx);have hsn:=vz (d:=d) hx;have hsl:(eM d (st.take i)).length<=40:=by rw[eM,List.length_map,List.length_take];omega
  have hw:=ej i;have e2:=(ov t.L (by have:=ok.n;omega)).shared_of_fresh;have hmh:((t.H0.map eN).length:Int)=t.H0.length:=ak;have hn:=ok.n;have hh:=ok.h;generalize hS:eM d (st.take i)=S at *
  obtain⟨tx,tw,tL,tH⟩:=t;simp only at *
  refine aJ hx ?_;refine G e2 ?_;refine H ?_;rw[hmh];refine b7 [(1,I (d:Nat)),(2,.ptr 2 1 0 0),(7,.als 1007 (1+i) 0 (S.map eS).length),(9,.ptr 9 ((s.own 9).1+1) 0 0),(10,.ptr 10 ((s.own 10).1+1) 0 0),(20,.sl (st.map eT)),(21,I st.length),(22,I (i:Nat)),(31,.sl (tH.map eN)),(32,I tH.length),(33,I ((0:Nat):Int))] [(2,1,⟨80,9,[fR ⟨nm,len,st,light,it⟩],2⟩),(1007,1+i,⟨71,7,S.map eS,1⟩),(9,(s.own 9).1+1,⟨135,4,[eT ⟨tx,tw,tL,tH⟩],2⟩),(10,(s.own 10).1+1,⟨69,2,[[.sl (tL.map eN),.nil]],2⟩)] ⟨O,O,O,O,O,O,O,O,O,O,O,O,O,O,O,trivial⟩ ?_;generalize (s.own 9).1+1=g9;generalize (s.own 10).1+1=g10;intro s1;refine aF (Ghost.nilcell (k:=300) (k0:=10) (i:=0) (j:=1) (row:=[.sl (tL.map eN),.nil]) 26 4 1 O O O O O O O) ?_;have hg3:∃g3,(s1.own 300).1+1=g3:=⟨_,O⟩;obtain⟨g3,hg3⟩:=hg3;refine ar (fun k:Nat=>k<=tH.length) (fun k=>[(1,I (d:Nat)),(2,.ptr 2 1 0 0),(7,.als 1007 (1+i) 0 (S.map eS).length),(9,.ptr 9 g9 0 0),(10,.ptr 10 g10 0 0),(20,.sl (st.map eT)),(21,I st.length),(22,I (i:Nat)),(31,.sl (tH.map eN)),(32,I tH.length),(33,I (k:Nat))])
   (fun k=>[(2,1,⟨80,9,[fR ⟨nm,len,st,light,it⟩],2⟩),(1007,1+i,⟨71,7,S.map eS,1⟩),(9,g9,⟨135,4,[eT ⟨tx,tw,tL,tH⟩],2⟩),(10,g10,⟨69,2,[[.sl (tL.map eN),.als 300 (g3+k) 0 (((tH.take k).map (yZ d tw)).map eR).length]],2⟩),(300,g3+k,⟨26,4,((tH.take k).map (yZ d tw)).map eR,1⟩)]) (fun k=>tH.length-k) 0 (Nat.zero_le _)
   ⟨O,O,O,O,O,O,O,O,O,O,O,O,O,O,by rw[<-hg3];rfl,by rw[<-hg3];rfl,trivial⟩ ?_
  clear hg3;intro k s2 hkl;refine D ?_ ?_<;>intro h
  .have hlk:k<tH.length:=by have:=ay h;omega
   clear h;obtain⟨x,hm⟩:=aO hlk;have hxl:=ok.H0 x (a_ hm);have hvl:0<=2*x*tw/\2*x*tw<=20000000000:=s9 hxl ok.w;obtain⟨v1,v2⟩:=hvl;have zv:Zb (2*x*tw):=aL J J;have u1:=i9 (2*x*tw) ⟨J,J⟩;have u2:=Ag (ofQ ((2*x*tw:Int):Rat)) (hx:=Vq.ofQ (h:=HQ.int)) Y d hd1 hd2;rw[show ofQ (((2*x*tw:Int):Rat)*((d:Rat)/1000000000))=yZ d tw x from O]at u2;have q1:IntKind.i64.wrap (2*x)=2*x:=wrap_i64 J J;have q2:IntKind.i64.wrap (2*x*tw)=2*x*tw:=wrap_i64 J J;have hrk:=ib (f:=yZ d tw) hm;have hkl2:((tH.take k).map (yZ d tw)).length<=1000:=by rw[List.length_map,List.length_take];omega
   have hwk:IntKind.i64.wrap (((k:Nat):Int)+1)=((k+1:Nat):Int):=by rw[wrap_i64 J J];omega
   generalize yZ d tw x=n at *
   generalize (tH.take k).map (yZ d tw)=E at *
   refine aJ hm ?_
   (repeat ((fail_if_success (with_reducible refine a8 12 ?_));refine cP O ?_))
   refine iE [47,300] [10] 13 [10,11,13] aX aX ?_;refine H ?_;rw[q1];refine H ?_;rw[q2];refine mJ O O O u1 O O ?_;refine G u2 ?_;refine H ?_;refine ry O O O (bb 1 O O O O O O O O O O O aK O ⟨iX O,?_⟩);refine H ?_;refine ry O O O (bE 1 O O O O O O O O O O O aK (by intro row hr;first|(simp at hr;subst hr;rfl)|(simp at hr;obtain⟨_,_,rfl⟩:=hr;rfl)|simp at hr) O O aT aT ⟨iX O,?_⟩);refine H ?_;have hb3:g3+(k+1)=g3+k+1:=O;refine⟨k+1,hlk,J,O,O,O,O,O,O,O,O,O,O,congrArg I hwk,O,O,O,?_,?_,trivial⟩
   .rw[hrk,hb3,show(E++[n]).map eR=E.map eR++[eR n] by rw[List.map_append];rfl];rfl
   .rw[hrk,hb3,show(E++[n]).map eR=E.map eR++[eR n] by rw[List.map_append];rfl];rfl
  .have hke:k=tH.length:=by have:=aH h;omega
   clear h;subst hke;rw[List.take_length];have hsr:sQ d ⟨tx,tw,tL,tH⟩=tH.map (yZ d tw)++[ofQ 0]:=O;have hslen:(tH.map (yZ d tw)).length<=1000:=by rw[List.length_map];omega
   generalize tH.map (yZ d tw)=E at *
   (repeat ((fail_if_success (with_reducible refine a8 14 ?_));refine cP O ?_))
   refine iE [54,300] [10] 6 [3,4,6] aX aX ?_;refine G w0 ?_;refine H ?_;refine ry O O O (bb 1 O O O O O O O O O O O aK O ⟨iX O,?_⟩);refine H ?_;refine ry O O O (bE 1 O O O O O O O O O O O aK (by intro row hr;first|(simp at hr;subst hr;rfl)|(simp at hr;obtain⟨_,_,rfl⟩:=hr;rfl)|simp at hr) O O aT aT ⟨iX O,?_⟩)
   (repeat ((fail_if_success (with_reducible refine a8 15 ?_));refine cP O ?_))
   refine aF (Ghost.freezeD (k:=300) (k0:=10) (i:=0) (j:=1) (row:=[.sl (tL.map eN),.als 300 (g3+tH.length+1) 0 (E.map eR++[eR (ofQ 0)]).length]) O O O O O O O O) ?_;refine bI [63,1007] [6,7,8] aX ?_;refine G w0 ?_;refine H ?_;refine ry O O O (bb 1 O O O O O O O O O O O aK O ⟨iX O,?_⟩);refine H ?_;refine ry O O O (bE 1 O O O O O O O O O O O aK (by intro row hr;first|(simp at hr;subst hr;rfl)|(simp at hr;obtain⟨_,_,rfl⟩:=hr;rfl)|simp at hr) O O aT aT ⟨iX O,?_⟩);refine H ?_;have hrow:(eM d (st.take (i+1))).map eS=S.map eS++[[I tx]++eR (ofQ 0)++[.sl (tL.map eN),.sl (E.map eR++[eR (ofQ 0)])]]:=by
    rw[hsn,qb,hsr,show(eS ⟨tx,ofQ 0,⟨tL,E++[ofQ 0]⟩⟩)=[I tx]++eR (ofQ 0)++[.sl (tL.map eN),.sl ((E++[ofQ 0]).map eR)] from O,List.map_append];rfl
   refine⟨i+1,hlt,J,O,O,?_,O,O,congrArg I hw,O,?_,trivial⟩
   .rw[hrow];rfl
   .rw[hrow];rfl
 .have hie:i=st.length:=by have:=aH h;omega
  clear h;subst hie;rw[List.take_length]
  (repeat ((fail_if_success (with_reducible refine fa ?_));refine cP O ?_))
  refine aF (Ghost.takeD (k:=1007) (t:=4) O O O) ?_;exact bM
theorem Ha {d:Nat}{t:ST}{k:Nat}(hk:k<t.H0.length){x:Int}(hx:t.H0[k]? = some x):(sQ d t)[k]? = some (yZ d t.w x):=by
 rw[sQ,List.getElem?_append_left (by simpa using hk),List.getElem?_map,hx];rfl
theorem G_ {d:Nat}{t:ST}{k:Nat}(hk:k=t.H0.length):(sQ d t)[k]? = some (ofQ 0):=by
 rw[sQ,List.getElem?_append_right (by simp[hk])];simp[hk]
theorem xH (d:Nat)(t:ST):(sQ d t).length=t.H0.length+1:=by simp[sQ]
set_option maxRecDepth 20000 in
theorem p8 (s:SHP)(d:Nat)(hd1:1<=d)(hd2:d<=1000000000)(hk:∀t∈s.st,StOk t)(h40:s.st.length<=40):Ret Tryz.prog .shared 93 [.agg (fR s),I (d:Nat)] (.sl ((eM d s.st).map eS)):=by
 have w0:=gL;have hml:((s.st.map eT).length:Int)=s.st.length:=ak;obtain⟨nm,len,st,light,it⟩:=s;simp only at *
 refine Ret.of_pwp layOk mixed Go.Proofs.Tryz.func93 O Y O O ?_
 (repeat ((fail_if_success (with_reducible refine a8 2 ?_));refine cP O ?_))
 refine aF (Ghost.nilreg (k:=1005) (t:=5) 71 7 1 O O) ?_;refine H ?_;refine ar (fun i:Nat=>i<=st.length) (fun i=>[(1,I (d:Nat)),(2,.ptr 2 1 0 0),(5,.als 1005 (1+i) 0 ((eM d (st.take i)).map eS).length),(6,I (i:Nat))]) (fun i=>[(2,1,⟨80,9,[fR ⟨nm,len,st,light,it⟩],2⟩),(1005,1+i,⟨71,7,(eM d (st.take i)).map eS,1⟩)]) (fun i=>st.length-i) 0 (Nat.zero_le _) ⟨O,O,O,O,O,O,trivial⟩ ?_;intro i s hi;refine H ?_;rw[hml];refine bS O ?_ ?_<;>intro h
 .have hlt:i<st.length:=by have:=ay h;omega
  clear h;obtain⟨t,hx⟩:=aO hlt;have ok:=hk t (a_ hx);have hsn:=vz (d:=d) hx;have hsl:(eM d (st.take i)).length<=40:=by rw[eM,List.length_map,List.length_take];omega
  have hw:=ej i;have e2:=(zD t.L (by have:=ok.n;omega)).shared_of_fresh;have hmh:((t.H0.map eN).length:Int)=t.H0.length:=ak;have hmL:((t.L.map eN).length:Int)=t.L.length:=ak;have hn:=ok.n;have hh:=ok.h;have hsup:qb d t=⟨t.x,ofQ 0,⟨t.L,sQ d t⟩⟩:=O;have hsll:=xH d t;have hge:=fun k (h:k<t.H0.length) x (hx:t.H0[k]? = some x)=>Ha (d:=d) h hx;have hgz:=fun k (h:k=t.H0.length)=>G_ (d:=d) (t:=t) h;generalize hS:eM d (st.take i)=S at *
  generalize hLL:sQ d t=LL at *
  obtain⟨tx,tw,tL,tH⟩:=t;simp only at *
  refine aJ hx ?_;refine G e2 ?_;refine H ?_;refine b7 [(1,I (d:Nat)),(2,.ptr 2 1 0 0),(5,.als 1005 (1+i) 0 (S.map eS).length),(6,I (i:Nat)),(7,.ptr 7 ((s.own 7).1+1) 0 0),(8,.ptr 8 ((s.own 8).1+1) 0 0),(9,I ((0:Nat):Int))] [(2,1,⟨80,9,[fR ⟨nm,len,st,light,it⟩],2⟩),(1005,1+i,⟨71,7,S.map eS,1⟩),(7,(s.own 7).1+1,⟨135,4,[eT ⟨tx,tw,tL,tH⟩],2⟩),(8,(s.own 8).1+1,⟨69,2,[[.sl (tL.map eN),.nil]],2⟩)] ⟨O,O,O,O,O,O,O,O,O,O,O,trivial⟩ ?_;generalize (s.own 7).1+1=g7;generalize (s.own 8).1+1=g8;intro s1;refine aF (Ghost.nilcell (k:=300) (k0:=8) (i:=0) (j:=1) (row:=[.sl (tL.map eN),.nil]) 26 4 1 O O O O O O O) ?_;have hg3:∃g3,(s1.own 300).1+1=g3:=⟨_,O⟩;obtain⟨g3,hg3⟩:=hg3;refine ar (fun k:Nat=>k<=tL.length) (fun k=>[(1,I (d:Nat)),(2,.ptr 2 1 0 0),(5,.als 1005 (1+i) 0 (S.map eS).length),(6,I (i:Nat)),(7,.ptr 7 g7 0 0),(8,.ptr 8 g8 0 0),(9,I (k:Nat))])
   (fun k=>[(2,1,⟨80,9,[fR ⟨nm,len,st,light,it⟩],2⟩),(1005,1+i,⟨71,7,S.map eS,1⟩),(7,g7,⟨135,4,[eT ⟨tx,tw,tL,tH⟩],2⟩),(8,g8,⟨69,2,[[.sl (tL.map eN),.als 300 (g3+k) 0 ((LL.take k).map eR).length]],2⟩),(300,g3+k,⟨26,4,(LL.take k).map eR,1⟩)]) (fun k=>tL.length-k) 0 (Nat.zero_le _)
   ⟨O,O,O,O,O,O,O,O,O,O,by rw[<-hg3];rfl,by rw[<-hg3];rfl,trivial⟩ ?_
  clear hg3;intro k s2 hkl;refine H ?_;rw[hmL];refine bS O ?_ ?_<;>intro h
  .have hlk:k<tL.length:=by have:=ay h;omega
   clear h;have hwk:IntKind.i64.wrap (((k:Nat):Int)+1)=((k+1:Nat):Int):=by rw[wrap_i64 J J];omega
   have hkl2:((LL.take k).map eR).length<=1000:=by rw[List.length_map,List.length_take];omega
   have hrk:∀n,LL[k]? = some n->(LL.take (k+1)).map eR=(LL.take k).map eR++[eR n]:=fun n hn=>by rw[bG hn,List.map_append];rfl
   have hb3:g3+(k+1)=g3+k+1:=O;generalize (LL.take k).map eR=E at *
   refine G w0 ?_;refine H ?_;rw[hmh];refine bS O ?_ ?_<;>intro h
   .have hlh:k<tH.length:=by have:=ay h;omega
    clear h;obtain⟨x,hm⟩:=aO hlh;have hxl:=ok.H0 x (a_ hm);have hvl:0<=2*x*tw/\2*x*tw<=20000000000:=s9 hxl ok.w;obtain⟨v1,v2⟩:=hvl;have zv:Zb (2*x*tw):=aL J J;have u1:=bC (2*x*tw) ⟨J,J⟩;have u2:=AA (ofQ ((2*x*tw:Int):Rat)) (hx:=Vq.ofQ (h:=HQ.int)) Y d hd1 hd2;rw[show ofQ (((2*x*tw:Int):Rat)*((d:Rat)/1000000000))=yZ d tw x from O]at u2;have q1:IntKind.i64.wrap (2*x)=2*x:=wrap_i64 J J;have q2:IntKind.i64.wrap (2*x*tw)=2*x*tw:=wrap_i64 J J;have hrw:=hrk _ (hge k hlh x hm);generalize yZ d tw x=n at *
    refine bQ 12 [40,41,42,43,44,45,46,47,48,49,50,51] ?_;refine aJ hm ?_;refine H ?_;rw[q1];refine H ?_;rw[q2];refine mJ O O O u1 O O ?_;refine G u2 ?_;refine H ?_;refine aB (bb 1 O O O O O O O O O O O aK O ?_);refine H ?_;refine aB (bE 1 O O O O O O O O O O O aK (by intro row hr;first|(simp at hr;subst hr;rfl)|simp at hr) O O aT aT ?_);refine H ?_;refine⟨k+1,hlk,J,O,O,O,O,O,O,congrArg I hwk,O,O,O,?_,?_,trivial⟩
    .rw[hrw,hb3];rfl
    .rw[hrw,hb3];rfl
   .have hlh:k=tH.length:=by have:=aH h;omega
    clear h;have hrw:=hrk _ (hgz k hlh);generalize ofQ 0=n at *
    refine H ?_;refine aB (bb 1 O O O O O O O O O O O aK O ?_);refine H ?_;refine aB (bE 1 O O O O O O O O O O O aK (by intro row hr;first|(simp at hr;subst hr;rfl)|simp at hr) O O aT aT ?_);refine H ?_;refine⟨k+1,hlk,J,O,O,O,O,O,O,congrArg I hwk,O,O,O,?_,?_,trivial⟩
    .rw[hrw,hb3];rfl
    .rw[hrw,hb3];rfl
  .have hke:k=tL.length:=by have:=aH h;omega
   clear h;subst hke;rw[List.take_of_length_le (show LL.length<=tL.length by omega)];refine aF (Ghost.freezeD (k:=300) (k0:=8) (i:=0) (j:=1) (row:=[.sl (tL.map eN),.als 300 (g3+tL.length) 0 (LL.map eR).length]) O O O O O O O O) ?_;refine H ?_;refine bI [64,1005] [6,7,8] aX ?_;refine G w0 ?_;refine H ?_;refine ry O O O (bb 1 O O O O O O O O O O O aK O ⟨iX O,?_⟩);refine H ?_;refine ry O O O (bE 1 O O O O O O O O O O O aK (by intro row hr;first|(simp at hr;subst hr;rfl)|(simp at hr;obtain⟨_,_,rfl⟩:=hr;rfl)|simp at hr) O O aT aT ⟨iX O,?_⟩);refine H ?_;have hrow:(eM d (st.take (i+1))).map eS=S.map eS++[[I tx]++eR (ofQ 0)++[.sl (tL.map eN),.sl (LL.map eR)]]:=by
    rw[hsn,hsup];rfl
   refine⟨i+1,hlt,J,O,O,?_,congrArg I hw,O,?_,trivial⟩
   .rw[hrow];rfl
   .rw[hrow];rfl
 .have hie:i=st.length:=by have:=aH h;omega
  clear h;subst hie;rw[List.take_length]
  (repeat ((fail_if_success (with_reducible refine fa ?_));refine cP O ?_))
  refine aF (Ghost.takeD (k:=1005) (t:=4) O O O) ?_;exact bM
structure SameS (s t:SR):Prop where
 x:s.x=t.x
 c:s.c.val=t.c.val
 S:s.k.S=t.k.S
 n:s.k.M.length=t.k.M.length
 m:∀k,k<s.k.M.length->(s.k.M.getD k RR.zero).val=(t.k.M.getD k RR.zero).val
structure SameB (p q:BR):Prop where
 w:p.w=q.w
 a:p.a.val=q.a.val
 n:p.l.length=q.l.length
 s:∀i,i<p.l.length->SameS (p.l.getD i dS) (q.l.getD i dS)
theorem oy {x y:RR}(hx:x.sz 12)(hy:y.sz 12)(h:x.val=y.val):Ret Tryz.prog .shared 28 [.agg (eR x),.agg (eR y)] (I 0):=by
 have:=dg x y (hx:=hx.v) (hy:=hy.v) Y Y;rwa [h,Rat.sub_self,show sgn 0=0 by decide +kernel]at this
set_option maxRecDepth 20000 in
theorem mP (a b:BR)(ha:a.Lim)(hb:b.Lim)(h12:a.l.length<=1000)(hM:∀s∈a.l,s.k.M.length<=1000/\s.k.S.length<=1000)(h:SameB a b):Ret Tryz.prog .shared 37 [.agg (eB a),.agg (eB b)] (.bool true):=by
 have c1:=oy ha.a hb.a h.a;have hml:(a.l.map eS).length=a.l.length:=ak;have hml2:(b.l.map eS).length=a.l.length:=by simp[h.n]
 have hw:=h.w;have hn:=h.n;have hs:=h.s;have hla:=ha.l.1;have hlb:=hb.l.1;clear h ha hb;obtain⟨w,aa,la⟩:=a;obtain⟨w2,ab,lb⟩:=b;simp only at *
 subst hw;refine Ret.of_pwp layOk mixed Go.Proofs.Tryz.func37 O Y O O ?_;refine bP ?_ ?_<;>intro h
 .simp at h
 clear h;refine ax c1 ?_;refine D ?_ ?_<;>intro h
 .exfalso;simp only[hml,hml2]at h;simp at h
 clear h;refine H ?_;refine ar (fun i:Nat=>i<=la.length) (fun i=>[(2,.ptr 2 1 0 0),(3,.ptr 3 1 0 0),(5,I (i:Nat))])
  (fun i=>[(2,1,⟨29,6,[eB ⟨w,aa,la⟩],2⟩),(3,1,⟨29,6,[eB ⟨w,ab,lb⟩],2⟩)]) (fun i=>la.length-i) 0 (Nat.zero_le _) ⟨O,O,O,O,O,trivial⟩ ?_
 intro i s hi;refine D ?_ ?_<;>intro h
 .have hlt:i<la.length:=by have:=ay h;simp only[hml]at this;omega
  clear h;have hx:=aN (d:=dS) hlt;have hy:=aN (l:=lb) (i:=i) (d:=dS) J;have hM1:=hM _ (aM hlt);have s1:=hs i hlt;have d1:=oy (hla _ (aM hlt)).c (hlb _ (aM (l:=lb) (i:=i) J)).c s1.c;have d2:=Cr (la.getD i dS).k.S J;have m1:=(hla _ (aM hlt)).k.m;have m2:=(hlb _ (aM (l:=lb) (i:=i) J)).k.m;obtain⟨e1,-,e3,e4,e5⟩:=s1;have hw:=ej i;generalize la.getD i dS=x at *
  generalize lb.getD i dS=y at *
  obtain⟨xx,xc,xS,xM⟩:=x;obtain⟨yx,yc,yS,yM⟩:=y;simp only at *
  subst e1 e3;have hmx:(xM.map eR).length=xM.length:=ak;have hmy:(yM.map eR).length=xM.length:=by simp[e4]
  (repeat ((fail_if_success (with_reducible refine a8 6 ?_));refine cP O ?_))
  refine dW [(10,6),(11,7),(12,6),(13,7)] aX aX ?_;refine aJ hx ?_;refine aJ hy ?_;refine H ?_;refine Bm O O O O O ?_;refine Bm O O O O O ?_;refine Bn 2 O O O O O O (fun _=>rfl) aK O O O O ?_;refine Bn 2 O O O O O O (fun _=>rfl) aK O O O O ?_;refine bP ?_ ?_<;>intro h
  .simp at h
  clear h;refine ax d1 ?_;refine ax d2 ?_;refine D ?_ ?_<;>intro h
  .exfalso;simp only[hmx,hmy]at h;simp at h
  clear h;refine H ?_;refine b7 [(2,.ptr 2 1 0 0),(3,.ptr 3 1 0 0),(5,I (i:Nat)),(6,.ptr 6 ((s.own 6).1+1) 0 0),(7,.ptr 7 ((s.own 7).1+1) 0 0),(8,I ((0:Nat):Int))]
   [(2,1,⟨29,6,[eB ⟨w,aa,la⟩],2⟩),(3,1,⟨29,6,[eB ⟨w,ab,lb⟩],2⟩),(6,(s.own 6).1+1,⟨71,7,[eS ⟨xx,xc,⟨xS,xM⟩⟩],2⟩),(7,(s.own 7).1+1,⟨71,7,[eS ⟨xx,yc,⟨xS,yM⟩⟩],2⟩)]
   ⟨O,O,O,O,O,O,O,O,O,O,trivial⟩ ?_
  generalize (s.own 6).1+1=g6;generalize (s.own 7).1+1=g7;intro s1;refine ar (fun k:Nat=>k<=xM.length) (fun k=>[(2,.ptr 2 1 0 0),(3,.ptr 3 1 0 0),(5,I (i:Nat)),(6,.ptr 6 g6 0 0),(7,.ptr 7 g7 0 0),(8,I (k:Nat))])
   (fun _=>[(2,1,⟨29,6,[eB ⟨w,aa,la⟩],2⟩),(3,1,⟨29,6,[eB ⟨w,ab,lb⟩],2⟩),(6,g6,⟨71,7,[eS ⟨xx,xc,⟨xS,xM⟩⟩],2⟩),(7,g7,⟨71,7,[eS ⟨xx,yc,⟨xS,yM⟩⟩],2⟩)]) (fun k=>xM.length-k) 0 (Nat.zero_le _)
   ⟨O,O,O,O,O,O,O,O,O,O,trivial⟩ ?_
  intro k s2 hk;refine D ?_ ?_<;>intro h
  .have hlk:k<xM.length:=by have:=ay h;simp only[hmx]at this;omega
   clear h;have hp:=aN (d:=RR.zero) hlk;have hq:=aN (l:=yM) (i:=k) (d:=RR.zero) J;have d3:=oy (m1 _ (a_ hp)) (m2 _ (a_ hq)) (e5 k hlk);have hwk:IntKind.i64.wrap (((k:Nat):Int)+1)=((k+1:Nat):Int):=by rw[wrap_i64 J J];omega
   generalize xM.getD k RR.zero=p at *
   generalize yM.getD k RR.zero=q at *
   refine bQ 14 [90,91,92,93,94,95,96,97,98,99,100,101,102,103] ?_;refine aJ hp ?_;refine aJ hq ?_;refine ax d3 ?_;refine H ?_;exact⟨k+1,hlk,J,O,O,O,O,O,congrArg I hwk,O,O,O,O,trivial⟩
  .clear h;refine H ?_;exact⟨i+1,hlt,J,O,O,congrArg I hw,O,O,trivial⟩
 .clear h;exact fW
structure Raised (u:Rat) (b c:BR):Prop where
 n:c.l.length=b.l.length
 x:∀i,i<b.l.length->(c.l.getD i dS).x=(b.l.getD i dS).x
 S:∀i,i<b.l.length->(c.l.getD i dS).k.S=(b.l.getD i dS).k.S
 m:∀i,i<b.l.length->(c.l.getD i dS).k.m=(b.l.getD i dS).k.m
 cc:∀i,i<b.l.length->(c.l.getD i dS).c.val=(b.l.getD i dS).c.val+u
 w:c.w=b.w
 a:c.a.val=b.a.val
variable {u:Rat}{b c:BR}
theorem Raised.s (h:Raised u b c){i:Nat}(hi:i<b.l.length):(c.l.getD i dS).k.s=(b.l.getD i dS).k.s:=by
 funext k;rw[CR.s,CR.s,h.S i hi]
theorem Raised.f (h:Raised u b c){z t:Rat}{i:Nat}(hi:i<b.l.length):(bd c).f (z-u) t i=(bd b).f z t i:=by
 have e:(bd c).y (z-u) t i=(bd b).y z t i:=by
  show(c.l.getD i dS).c.val+(z-u+t*((c.l.getD i dS).x:Rat))=(b.l.getD i dS).c.val+(z+t*((b.l.getD i dS).x:Rat));rw[h.cc i hi,h.x i hi];grind
 show cC (c.l.getD i dS).k.S.length (c.l.getD i dS).k.s (c.l.getD i dS).k.m ((bd c).y (z-u) t i)=cC (b.l.getD i dS).k.S.length (b.l.getD i dS).k.s (b.l.getD i dS).k.m ((bd b).y z t i);rw[e,h.S i hi,h.s hi,h.m i hi]
theorem Raised.FL (h:Raised u b c){z t:Rat}:FL c.l (z-u) t=FL b.l z t:=by
 refine List.ext_getElem? fun i=>?_;by_cases hi:i<b.l.length
 .rw[te hi,te (show i<c.l.length by rw[h.n];exact hi)];exact congrArg (fun q=>some (ofQ q)) (h.f hi)
 .rw[List.getElem?_eq_none (by rw[Go.Pv.FL,List.length_map,h.n];omega),List.getElem?_eq_none (by rw[Go.Pv.FL,List.length_map];omega)]
inductive SaidUp (u:Rat) (b c:BR):Prop
 |none (r:AR) (e:Int) (he:e=12\/e=13) (hv:Va r r.z.val r.t.val 4 4) (h1:cV b=⟨zA,[],r,e⟩) (h2:dO b=([],e)) (h3:cV c=⟨zA,[],r,e⟩) (h4:dO c=([],e))
 |loose (F:List RR) (hF:Ik F 1000000) (hl:F.length<=1000) (h1:cV b=⟨zA,[],zA,14⟩) (h2:dO b=(F,0)) (h3:cV c=⟨zA,[],zA,14⟩) (h4:dO c=(F,0))
 |one (z t:Rat) (F:List RR) (hF:Ik F 1000000) (hl:F.length<=1000) (hz:HQ z 24000) (ht:HQ t 20000) (h1:cV b=⟨⟨ofQ z,ofQ t⟩,F,zA,0⟩) (h2:dO b=(F,0)) (h3:cV c=⟨⟨ofQ (z-u),ofQ t⟩,F,zA,0⟩) (h4:dO c=(F,0))
end Go.Pv
set_option maxHeartbeats 2000000
namespace Go.Pv
attribute [local irreducible] PWP POps PQuiet PSem aG au am ao
open Go.Proofs
theorem tQ {f:SR->SR}{l:List SR}{i:Nat}(hi:i<l.length):(l.map f).getD i dS=f (l.getD i dS):=by
 rw[List.getD_eq_getElem?_getD,List.getElem?_map,aN (d:=dS) hi];rfl
theorem yq (x:RR):(l9 x).val=x.val:=ofQ_val _
theorem tS {q:Rat}{n m:Nat}(h:hq q n)(hm:n<=m):(ofQ q).sz m:=by
 have:=dJ h;exact⟨J,J⟩
theorem AN (x:SR):SameS x x:=⟨O,O,O,O,fun _ _=>rfl⟩
theorem EY (M:List RR)(k:Nat):((M.map l9).getD k RR.zero).val=(M.getD k RR.zero).val:=by
 rw[List.getD_eq_getElem?_getD,List.getD_eq_getElem?_getD,List.getElem?_map];cases M[k]? with
 |none=>rfl
 |some x=>exact yq x
theorem Fw (x:SR):SameS (vN x) x:=⟨O,yq _,O,List.length_map _,fun k _=>EY _ k⟩
theorem Dv {w:Int}{a1 a2:RR}{L:List SR}{f g:SR->SR}(ha:a1.val=a2.val)(h:∀x∈L,SameS (f x) (g x)):SameB ⟨w,a1,L.map f⟩ ⟨w,a2,L.map g⟩:=by
 refine⟨O,ha,ak,fun i hi=>?_⟩;have hi:i<L.length:=by rw[<-List.length_map f];exact hi
 show SameS ((L.map f).getD i dS) ((L.map g).getD i dS);rw[tQ hi,tQ hi];exact h _ (aM hi)
theorem SameS.mm {s t:SR}(h:SameS s t):s.k.m=t.k.m:=by
 funext k;by_cases hk:k<s.k.M.length
 .exact h.m k hk
 .show(s.k.M.getD k RR.zero).val=(t.k.M.getD k RR.zero).val;rw[List.getD_eq_getElem?_getD,List.getD_eq_getElem?_getD,List.getElem?_eq_none J,List.getElem?_eq_none (by have:=h.n;omega)]
theorem tC {c d:CR}(hS:c.S=d.S)(hm:c.m=d.m):∀n k,cH c k n=cH d k n:=by
 intro n
 induction n with
 |zero=>intro k;rfl
 |succ n ih =>
  intro k;have hmk:(c.M.getD k RR.zero).val=(d.M.getD k RR.zero).val:=congrFun hm k;have e:di c k=di d k:=by rw[di,di,hS,hmk]
  rw[cH,cH,e,ih]
theorem tB {c d:CR}(hS:c.S=d.S)(hn:c.M.length=d.M.length)(hm:c.m=d.m):bJ c=bJ d:=by
 rw[bJ,bJ,tC hS hm,hS,hn]
theorem A4 {s t:SR}(h:SameS s t):fU s=fU t:=by rw[fU,fU,h.x,h.c,tB h.S h.n h.mm]
theorem tO {l m:List SR}(hn:l.length=m.length)(h:∀i,i<l.length->SameS (l.getD i dS) (m.getD i dS)):cz fU l=cz fU m:=by
 induction l generalizing m with
 |nil=>cases m with
  |nil=>rfl
  |cons y m=>cases hn
 |cons x l ih=>cases m with
  |nil=>cases hn
  |cons y m =>
   have h0:SameS x y:=h 0 ak;rw[cz,cz,A4 h0,ih (by simpa using hn) fun i hi=>h (i+1) aT]
theorem vZ {p q:BR}(h:SameB p q):bH p=bH q:=by
 rw[bH,bH,h.w,h.a,bT,bT,h.n,tO h.n h.s]
structure ShB (b:BR):Prop where
 w:i64 b.w
 data:n7 b.l
 a:b.a.sz 3
 l:n_ b.l 10 4
theorem Gc {x:RR}(h:x.sz 3):(l9 x).sz 12:=tS (Ib h) Y
theorem GH {b:BR}(h:ShB b){x:SR}(hx:x∈b.l):(vN x).Lim:=by
 obtain⟨h1,h2,h3,h4⟩:=h.l.2 x hx;obtain⟨d1,d2⟩:=h.data x hx;refine⟨d1,Gc h3,d2,fun m hm=>?_,?_,?_⟩
 .obtain⟨y,hy,rfl⟩:=List.mem_map.1 (show m∈x.k.M.map l9 from hm);exact Gc (h4 y hy)
 .show x.k.S.length<=_;omega
 .show(x.k.M.map l9).length<=_;rw[List.length_map];omega
theorem G9 {b:BR}(h:ShB b):b.Lim:=⟨h.w,h.a.mono Y,xG h.data h.l Y Y⟩
theorem EV {b:BR}(h:ShB b){f:SR->SR}(hf:∀x∈b.l,(f x).Lim):fJ (b.l.map f):=by
 refine⟨fun s hs=>?_,by rw[List.length_map];have:=h.l.1;omega⟩;obtain⟨x,hx,rfl⟩:=List.mem_map.1 hs;exact hf x hx
theorem l7:bZero.Lim:=⟨⟨Y,Y⟩,⟨Nat.zero_le _,Nat.zero_le _⟩,⟨(fun s hs=>by cases hs),Nat.zero_le _⟩⟩
theorem rB:SameB bZero bZero:=⟨O,O,O,fun _ _=>AN _⟩
theorem Ap {p q:BR}(h:SameB p q)(hp:p.Lim)(hq:q.Lim)(h12:p.l.length<=1000)(hM:∀s∈p.l,s.k.M.length<=1000/\s.k.S.length<=1000)(e:Int):Ret Tryz.prog .shared 37 [.agg (eB (if e=0 then p else bZero)),.agg (eB (if e=0 then q else bZero))] (.bool true):=by
 by_cases he:e=0
 .rw[if_pos he,if_pos he];exact mP p q hp hq h12 hM h
 .rw[if_neg he,if_neg he];exact mP bZero bZero l7 l7 (Nat.zero_le _) (fun s hs=>by cases hs) rB
theorem Bf:Ret Tryz.prog .shared 37 [.agg (eB bZero),.agg (eB bZero)] (.bool true):=mP bZero bZero l7 l7 (Nat.zero_le _) (fun s hs=>by cases hs) rB
structure Both (f g:FuncId) (args:List PV):Prop where
 run:∃(p q:BR) (e:Int),Ret Tryz.prog .shared f args (.tup [.agg (eB p),I e])/\Ret Tryz.prog .shared g args (.tup [.agg (eB q),I e])/\Ret Tryz.prog .shared 37 [.agg (eB p),.agg (eB q)] (.bool true)
theorem G8 {b:BR}(h:ShB b):b.l.length<=1000/\∀s∈b.l,s.k.M.length<=1000/\s.k.S.length<=1000 :=
 ⟨by have:=h.l.1;omega,fun s hs=>by have:=h.l.2 s hs;exact⟨by have:=this.2.1;omega,by have:=this.1;omega⟩⟩
def qX (s:SHP):Rat:=(sX (s.light::s.it):Rat)/(sM (s.light::s.it):Rat)
def wB (s:SHP)(l:List SR):BR:=⟨sM (s.light::s.it),ofQ (qX s),l⟩
def pB (s:SHP)(l:List SR):BR:=⟨sM (s.light::s.it),ofQ (qX s),l.map vN⟩
theorem yL (s:SHP)(l:List SR):SameB (pB s l) (wB s l):=by
 have:=Dv (w:=sM (s.light::s.it)) (a1:=ofQ (qX s)) (a2:=ofQ (qX s)) (L:=l) (f:=vN) (g:=fun x=>x) O fun x _=>Fw x;rw[List.map_id']at this;exact this
theorem r_ (p:Rat):l9 (ofQ p)=ofQ p:=by rw[l9,ofQ_val]
theorem HJ (s:SHP)(l:List SR):Ii id (wB s l)=pB s l:=by
 rw[Ii,pB];show(⟨sM (s.light::s.it),l9 (ofQ (qX s)),l.map fun x=>id (vN x)⟩:BR)=_;rw[r_];rfl
theorem uj {s:SHP}(h:ShipOk s):1<=sM (s.light::s.it)/\sM (s.light::s.it)<=61000000000/\hq (qX s) 4:=by
 obtain⟨⟨a1,a2⟩,-,⟨a3,a4⟩,-⟩:=i7 h.ld;have hn:((s.light::s.it).length:Int)<=61:=by have:=h.n;simp;omega
 have h1:=h.m;refine⟨h1,J,kA J ?_ ?_⟩
 .rw[show 65536^4=18446744073709551616 by decide];omega
 .rw[show 65536^4=18446744073709551616 by decide];omega
set_option maxRecDepth 20000 in
theorem Ba (s:SHP)(hs:s.Len)(he:cE s≠0)(l:List SR):Ret Tryz.prog .shared 33 [.agg (fR s),.sl (l.map eS)] (.tup [.agg (eB bZero),I (cE s)]):=by
 have h1:=wK s hs he
 suffices hz:Ret Tryz.prog .shared 33 [.agg (fR s),.sl (l.map eS)] (.tup [.agg zB,I (cE s)]) from hz.weak (WeakL.refl _) (WeakL.tup (.cons nZ.agg (WeakL.refl _)))
 generalize cE s=e at *
 refine Ret.of_pwp layOk mixed Go.Proofs.Tryz.func33 O Y O O ?_;refine G h1 ?_;refine D ?_ ?_<;>intro h
 .clear h;exact bM
 .simp at h;exact absurd h he
set_option maxRecDepth 20000 in
theorem vK (s:SHP)(hs:s.Len)(he:cE s=0)(l:List SR)(hb:(wB s l).Lim)(hp:(pB s l).Lim)(h12:l.length<=1000)(hM:∀x∈l,x.k.M.length<=1000):Ret Tryz.prog .shared 33 [.agg (fR s),.sl (l.map eS)] (.tup [.agg (eB (if bH (pB s l)=0 then pB s l else bZero)),I (bH (pB s l))]):=by
 have h1:=Ad s hs he;have h2:=we (wB s l) hb h12 hM 65 [] id (fun x _=>ER (vN x));rw[HJ]at h2;have h3:=tt (pB s l) hp;have ew:eB (wB s l)=I (sM (s.light::s.it))::(eR (ofQ (qX s))++[.sl (l.map eS)]):=O;rw[ew]at h2;rw[vC,show(sX (s.light::s.it):Rat)/(sM (s.light::s.it):Rat)=qX s from O]at h1;generalize ofQ ((sZ (s.light::s.it):Rat)/(sM (s.light::s.it):Rat))=QZ at *
 generalize bH (pB s l)=e at *
 generalize hX:(if e=0 then pB s l else bZero)=X at *
 generalize pB s l=c at *
 generalize ofQ (qX s)=QX at *
 generalize sM (s.light::s.it)=m at *
 generalize sF (s.light::s.it)=f at *
 clear hb hp;refine Ret.of_pwp layOk mixed Go.Proofs.Tryz.func33 O Y O O ?_;refine G h1 ?_;refine G h2 ?_;refine G h3 ?_;exact bM
set_option maxRecDepth 20000 in
theorem xz (s:SHP)(hs:s.Len)(he:cE s≠0)(l:List SR):Ret Tryz.prog .shared 34 [.agg (fR s),.sl (l.map eS)] (.tup [.agg (eB bZero),I (cE s)]):=by
 have h1:=gW s hs
 suffices hz:Ret Tryz.prog .shared 34 [.agg (fR s),.sl (l.map eS)] (.tup [.agg zB,I (cE s)]) from hz.weak (WeakL.refl _) (WeakL.tup (.cons nZ.agg (WeakL.refl _)))
 generalize cE s=e at *
 refine Ret.of_pwp layOk mixed Go.Proofs.Tryz.func34 O Y O O ?_;refine ax h1 ?_;refine D ?_ ?_<;>intro h
 .clear h;exact bM
 .simp at h;exact absurd h he
set_option maxRecDepth 20000 in
theorem ra (s:SHP)(hs:s.Len)(he:cE s=0)(l:List SR)(hb:(wB s l).Lim):Ret Tryz.prog .shared 34 [.agg (fR s),.sl (l.map eS)] (.tup [.agg (eB (if bH (wB s l)=0 then wB s l else bZero)),I (bH (wB s l))]):=by
 have ok:=lU he;have h0:=gW s hs;rw[he]at h0;have h1:=uS s _ O ok.ld ok.m (by have:=ok.n;simp;omega);have h3:=At (wB s l) hb;have ew:eB (wB s l)=I (sM (s.light::s.it))::(eR (ofQ (qX s))++[.sl (l.map eS)]):=O;rw[vC,show(sX (s.light::s.it):Rat)/(sM (s.light::s.it):Rat)=qX s from O]at h1;generalize ofQ ((sZ (s.light::s.it):Rat)/(sM (s.light::s.it):Rat))=QZ at *
 by_cases hz:bH (wB s l)=0
 .rw[hz]at h3;rw[if_pos hz,hz,ew];rw[ew]at h3;generalize ofQ (qX s)=QX at *
  generalize sM (s.light::s.it)=m at *
  generalize sF (s.light::s.it)=f at *
  clear hb ok ew hz;refine Ret.of_pwp layOk mixed Go.Proofs.Tryz.func34 O Y O O ?_;refine ax h0 ?_;refine G h1 ?_;refine ax h3 ?_;exact bM
 .rw[if_neg hz];rw[ew]at h3
  suffices hw:Ret Tryz.prog .shared 34 [.agg (fR s),.sl (l.map eS)] (.tup [.agg zB,I (bH (wB s l))]) from hw.weak (WeakL.refl _) (WeakL.tup (.cons nZ.agg (WeakL.refl _)))
  generalize bH (wB s l)=e at *
  generalize ofQ (qX s)=QX at *
  generalize sM (s.light::s.it)=m at *
  generalize sF (s.light::s.it)=f at *
  clear hb ok ew;refine Ret.of_pwp layOk mixed Go.Proofs.Tryz.func34 O Y O O ?_;refine ax h0 ?_;refine G h1 ?_;refine ax h3 ?_;refine D ?_ ?_<;>intro h
  .clear h;exact bM
  .simp at h;exact absurd h hz
structure SlimS (s:SHP):Prop where
 n:s.st.length<=3
 L:∀t∈s.st,t.L.length<=3
def oI (s:SHP)(d:Nat):BR:=wB s (eM d s.st)
theorem GI (d:Nat)(l:List ST):(eM d l).map vN=eM d l:=by
 rw[eM,List.map_map];refine List.map_congr_left fun t _=>?_;show vN (qb d t)=qb d t;rw[vN,qb];show(⟨t.x,l9 (ofQ 0),⟨t.L,(sQ d t).map l9⟩⟩:SR)=_;rw[r_];have:(sQ d t).map l9=sQ d t:=by
  rw[sQ,List.map_append,List.map_map];congr 1
  .exact List.map_congr_left fun h _=>r_ _
  .show [l9 (ofQ 0)]=_;rw[r_]
 rw[this]
theorem F9 (s:SHP)(d:Nat):pB s (eM d s.st)=oI s d:=by rw[pB,GI];rfl
theorem Hc {d:Nat}(hd:d<=1100){w h:Int}(hh:0<=h/\h<=100000)(hw:1<=w/\w<=100000):hq (((2*h*w:Int):Rat)*((d:Rat)/1000000000)) 4:=by
 obtain⟨v1,v2⟩:=s9 hh hw;generalize 2*h*w=v at *
 have e:(v:Rat)*((d:Rat)/1000000000)=((v*(d:Int):Int):Rat)/((1000000000:Int):Rat):=by
  rw[Rat.intCast_mul,show((d:Int):Rat)=(d:Rat) from O,show((1000000000:Int):Rat)=1000000000 from O];grind
 rw[e];have h1:v*(d:Int)<=20000000000*(d:Int):=Int.mul_le_mul_of_nonneg_right v2 J;have h2:0<=v*(d:Int):=Int.mul_nonneg v1 J;refine kA Y ?_ Y;rw[show 65536^4=18446744073709551616 by decide];omega
theorem Gm {d:Nat}(hd:d<=1100){t:ST}(ok:StOk t):∀x∈sQ d t,∃q,x=ofQ q/\hq q 4:=fun x hx=>by
 rcases List.mem_append.1 hx with hx|hx
 .obtain⟨h,hh,rfl⟩:=List.mem_map.1 hx;exact⟨_,O,Hc hd (ok.H0 h hh) ok.w⟩
 .rw[List.mem_singleton.1 hx];exact⟨0,O,(HQ.zero.mono (show 4<=4 by decide)).ok⟩
theorem yk {s:SHP}(hs:s.Len)(he:cE s=0)(hsl:SlimS s){d:Nat}(hd:d<=1100):(oI s d).Good/\(∀t,SortC (kX (oI s d).l t))/\(∀x∈eM d s.st,x.k.M.length<=1000):=by
 have ok:=lU he;obtain⟨m1,m2,mq⟩:=uj ok;have hst:∀t∈s.st,StOk t:=fun t ht=>by
  obtain⟨i,hi⟩:=List.mem_iff_getElem?.1 ht;exact DR (ok.st i t hi)
 have hmem:∀x∈(oI s d).l,∃t∈s.st,x=qb d t:=fun x hx=>by
  obtain⟨t,ht,e⟩:=List.mem_map.1 (show x∈s.st.map (qb d) from hx);exact⟨t,ht,e.symm⟩
 have hlen:(oI s d).l.length=s.st.length:=List.length_map _;have hM:∀x∈eM d s.st,x.k.M.length<=1000:=fun x hx=>by
  obtain⟨t,ht,rfl⟩:=hmem x hx;show(sQ d t).length<=1000;rw[xH];have:=(hst t ht).h;have:=hsl.L t ht;omega
 have h3:∀x∈(oI s d).l,x.k.S.length<=3:=fun x hx=>by
  obtain⟨t,ht,rfl⟩:=hmem x hx;exact hsl.L t ht
 have hn:=hsl.n;have hlim:(oI s d).Lim:=by
  refine⟨⟨by show -9223372036854775808<=sM (s.light::s.it);omega,by show sM (s.light::s.it)<=9223372036854775807;omega⟩,tS mq Y,fun x hx=>?_,J⟩;obtain⟨t,ht,rfl⟩:=hmem x hx;have o:=hst t ht;refine⟨⟨by show -9223372036854775808<=t.x;have:=o.x;omega,by show t.x<=9223372036854775807;have:=o.x;omega⟩,tS (HQ.zero.mono (show 4<=12 by decide)).ok (aS),fun z hz=>?_,fun y hy=>?_,?_,?_⟩
  .have:=o.L z hz;exact⟨J,J⟩
  .obtain⟨q,rfl,hq⟩:=Gm hd o y hy;exact tS hq Y
  .show t.L.length<=1000000000;have:=o.n;omega
  .show(sQ d t).length<=1000000000;rw[xH];have:=o.n;have:=o.h;omega
 have hbn:∀t,(kX (oI s d).l t).length<=9:=fun t=>by
  have:=lr (nD t) 3 (oI s d).l fun x hx=>by rw[rM];exact h3 x hx
  rw[kX];omega
 refine⟨⟨hlim,fun hc=>⟨⟨hlim,hc,J,fun x hx=>Nat.le_trans (h3 x hx) Y⟩,?_,fun t=>Nat.le_trans (hbn t) Y⟩⟩,fun t=>y3 _ (Nat.le_trans (hbn t) Y),hM⟩;have hg:∀i,i<(bd (oI s d)).N->∃t∈s.st,(oI s d).l.getD i dS=qb d t:=fun i hi=>hmem _ (aM hi);refine⟨?_,fun i hi=>?_,fun i hi=>?_,fun i hi=>?_,fun i hi k hk=>?_,fun i hi k hk=>?_,?_,?_⟩
 .show(oI s d).l.length<=10;omega
 .obtain⟨t,ht,e⟩:=hg i hi;show((oI s d).l.getD i dS).k.S.length<=5;rw[e];exact Nat.le_trans (hsl.L t ht) Y
 .obtain⟨t,ht,e⟩:=hg i hi;show hq (((oI s d).l.getD i dS).x:Rat) 4;rw[e];have o:=(hst t ht).x;exact tR _ ⟨by show -9223372036854775808<=t.x;omega,by show t.x<=9223372036854775807;omega⟩
 .obtain⟨t,ht,e⟩:=hg i hi;show hq ((oI s d).l.getD i dS).c.val 9;rw[e];show hq (ofQ 0).val 9;rw[ofQ_val];exact(HQ.zero.mono (show 4<=9 by decide)).ok
 .obtain⟨t,ht,e⟩:=hg i hi;show hq (((oI s d).l.getD i dS).k.s k) 4;rw[e];show hq ((t.L.getD k 0:Int):Rat) 4;have:0<=t.L.getD k 0/\t.L.getD k 0<=100000:=by
   rw[List.getD_eq_getElem?_getD];cases hl:t.L[k]? with
   |none=>simp
   |some l=>exact(hst t ht).L l (a_ hl)
  exact tR _ ⟨J,J⟩
 .obtain⟨t,ht,e⟩:=hg i hi;show hq (((oI s d).l.getD i dS).k.m k) 4;rw[e];show hq ((sQ d t).getD k RR.zero).val 4;rw[List.getD_eq_getElem?_getD];cases hl:(sQ d t)[k]? with
  |none =>
   show hq RR.zero.val 4;have:RR.zero.val=0:=by decide +kernel
   rw[this];exact(HQ.zero.mono (show 4<=4 by decide)).ok
  |some x =>
   obtain⟨q,rfl,g⟩:=Gm hd (hst t ht) x (a_ hl);show hq (ofQ q).val 4;rw[ofQ_val];exact g
 .exact tR _ ⟨by show -9223372036854775808<=sM (s.light::s.it);omega,by show sM (s.light::s.it)<=9223372036854775807;omega⟩
 .show hq (ofQ (qX s)).val 8;rw[ofQ_val];exact gR mq Y
noncomputable def mz (s:SHP)(d:Int):SQ:=if je s d=0 then cV (oI s d.toNat) else⟨zA,[],zA,je s d⟩
theorem wF {s:SHP}{d:Int}(h:je s d=0):cE s=0/\aV d 900 1100=true:=by
 rw[je]at h;split at h
 .rename_i h1;split at h
  .rename_i h2;exact⟨h1,h2⟩
  .omega
 .contradiction
theorem n6 {e:Int}:Weak (.tup [.agg zS,.agg (zN++zN),I e]) (⟨zA,[],zA,e⟩:SQ).pv:=WeakL.tup (.cons g_.agg (.cons gY.agg (WeakL.refl _)))
set_option maxRecDepth 20000 in
theorem zP (s:SHP)(hs:s.Len)(d:Int)(he:je s d≠0):Ret Tryz.prog .shared 35 [.agg (fR s),I d] (⟨zA,[],zA,je s d⟩:SQ).pv:=by
 have h1:=sY s hs d he;refine Ret.weak ?_ (WeakL.refl _) n6;generalize je s d=e at *
 refine Ret.of_pwp layOk mixed Go.Proofs.Tryz.func35 O Y O O ?_;refine G h1 ?_;refine D ?_ ?_<;>intro h
 .clear h;exact bM
 .simp at h;exact absurd h he
set_option maxRecDepth 20000 in
theorem Cb (s:SHP)(d:Int)(B:BR)(l:List SR)(e:Int)(Q:SQ)(h1:Ret Tryz.prog .shared 91 [.agg (fR s),I d] (.tup [.sl (l.map eS),I 0]))(h2:Ret Tryz.prog .shared 33 [.agg (fR s),.sl (l.map eS)] (.tup [.agg (eB B),I e]))
  (h3:e=0->Ret Tryz.prog .shared 9 [.agg (eB B)] Q.pv) (h4:e≠0->Q=⟨zA,[],zA,e⟩):Ret Tryz.prog .shared 35 [.agg (fR s),I d] Q.pv:=by
 by_cases he:e=0
 .have g3:=h3 he;clear h3 h4;subst he;obtain⟨⟨az,at'⟩,F,⟨rz,rt⟩,e⟩:=Q;simp only[SQ.pv]at *
  refine Ret.of_pwp layOk mixed Go.Proofs.Tryz.func35 O Y O O ?_;refine G h1 ?_;refine G h2 ?_;refine G g3 ?_;exact bM
 .rw[h4 he];refine Ret.weak ?_ (WeakL.refl _) n6;clear h3 h4;refine Ret.of_pwp layOk mixed Go.Proofs.Tryz.func35 O Y O O ?_;refine G h1 ?_;refine G h2 ?_;refine D ?_ ?_<;>intro h
  .clear h;exact bM
  .simp at h;exact absurd h he
set_option maxRecDepth 20000 in
theorem xg (s:SHP)(hs:s.Len)(d:Int)(he:je s d≠0):Ret Tryz.prog .shared 36 [.agg (fR s),I d] (⟨zA,[],zA,je s d⟩:SQ).pv:=by
 have h1:=gW s hs;have h2:=lI d;refine Ret.weak ?_ (WeakL.refl _) n6;rw[je]at he ⊢;generalize (if aV d 900 1100=true then(0:Int) else 2)=e2 at *
 generalize cE s=e at *
 by_cases hz:e=0
 .subst hz;rw[if_pos O]at he ⊢;refine Ret.of_pwp layOk mixed Go.Proofs.Tryz.func36 O Y O O ?_;refine ax h1 ?_;refine ax h2 ?_;refine D ?_ ?_<;>intro h
  .clear h;exact bM
  .simp at h;exact absurd h he
 .rw[if_neg hz];refine Ret.of_pwp layOk mixed Go.Proofs.Tryz.func36 O Y O O ?_;refine ax h1 ?_;refine D ?_ ?_<;>intro h
  .clear h;exact bM
  .simp at h;exact absurd h hz
set_option maxRecDepth 20000 in
theorem Aw (s:SHP)(hs:s.Len)(d:Int)(hf:je s d=0)(B:BR)(l:List SR)(e:Int)(Q:SQ)(h1:Ret Tryz.prog .shared 93 [.agg (fR s),I d] (.sl (l.map eS)))(h2:Ret Tryz.prog .shared 34 [.agg (fR s),.sl (l.map eS)] (.tup [.agg (eB B),I e]))
  (h3:e=0->Ret Tryz.prog .shared 14 [.agg (eB B)] Q.pv) (h4:e≠0->Q=⟨zA,[],zA,e⟩):Ret Tryz.prog .shared 36 [.agg (fR s),I d] Q.pv:=by
 have k1:=gW s hs;have k2:=lI d;obtain⟨f1,f2⟩:=wF hf;rw[f1]at k1;rw[f2,if_pos O]at k2;by_cases he:e=0
 .have g3:=h3 he;clear h3 h4;subst he;obtain⟨⟨az,at'⟩,F,⟨rz,rt⟩,e⟩:=Q;simp only[SQ.pv]at *
  refine Ret.of_pwp layOk mixed Go.Proofs.Tryz.func36 O Y O O ?_;refine ax k1 ?_;refine ax k2 ?_;refine H ?_;refine dW [(8,9),(9,9)] aX aX ?_;refine G h1 ?_;refine G h2 ?_;refine H ?_;refine Bm O O O O O ?_;refine Bn 2 O O O O O O (fun _=>rfl) aK O O O O ?_;refine G g3 ?_;exact bM
 .rw[h4 he];refine Ret.weak ?_ (WeakL.refl _) n6;clear h3 h4;refine Ret.of_pwp layOk mixed Go.Proofs.Tryz.func36 O Y O O ?_;refine ax k1 ?_;refine ax k2 ?_;refine H ?_;refine dW [(8,9),(9,9)] aX aX ?_;refine G h1 ?_;refine G h2 ?_;refine H ?_;refine Bm O O O O O ?_;refine Bn 2 O O O O O O (fun _=>rfl) aK O O O O ?_;refine D ?_ ?_<;>intro h
  .clear h;exact bM
  .simp at h;exact absurd h he
theorem v8 {s:SHP}(hs:s.Len)(hsl:SlimS s)(d:Int):Ret Tryz.prog .shared 35 [.agg (fR s),I d] (mz s d).pv/\Ret Tryz.prog .shared 36 [.agg (fR s),I d] (mz s d).pv:=by
 rw[mz];by_cases hf:je s d=0
 rotate_left
 .rw[if_neg hf];exact⟨zP s hs d hf,xg s hs d hf⟩
 rw[if_pos hf];obtain⟨f1,f2⟩:=wF hf;obtain⟨d1,d2⟩:=r7 f2;obtain⟨n,rfl⟩:∃n:Nat,d=n:=⟨d.toNat,J⟩;rw[show((n:Int)).toNat=n from Int.toNat_natCast n];have ok:=lU f1;have hst:∀t∈s.st,StOk t:=fun t ht=>by
  obtain⟨i,hi⟩:=List.mem_iff_getElem?.1 ht;exact DR (ok.st i t hi)
 obtain⟨hg,hS,hM⟩:=yk hs f1 hsl (d:=n) J;have h12:(eM n s.st).length<=1000:=by rw[eM,List.length_map];have:=ok.len;omega
 have p1:=vA s hs n hf J J hst ok.len;have p2:=vK s hs f1 (eM n s.st) hg.1 (by rw[F9];exact hg.1) h12 hM;rw[F9]at p2;have q1:=p8 s n J J hst ok.len;have q2:=ra s hs f1 (eM n s.st) hg.1;rw[show wB s (eM n s.st)=oI s n from O]at q2;have h4:bH (oI s n)≠0->cV (oI s n)=⟨zA,[],zA,bH (oI s n)⟩:=fun h=>by rw[cV,if_neg h]
 refine⟨Cb s _ _ _ _ _ p1 p2 (fun h=>?_) h4,Aw s hs _ hf _ _ _ _ q1 q2 (fun h=>?_) h4⟩
 .rw[if_pos h];exact xP _ hg fun _=>hS
 .rw[if_pos h];exact(Au _ hg h).1
theorem HP {n:Nat}{cs:List PV}(h:tyP lay.get (n+3) 135 cs):∃t:ST,cs=eT t/\t.L.length<=9223372036854775807/\t.H0.length<=9223372036854775807:=by
 obtain⟨parts,rfl,hl,hp⟩:=kT h O
 match parts,hl,hp with
 |[p0,p1,p2,p3],_,hp =>
  obtain⟨x,rfl,-⟩:=dec_int (hp 0 _ p0 O O);obtain⟨w,rfl,-⟩:=dec_int (hp 1 _ p1 O O);obtain⟨L,rfl,h1,-⟩:=oC (hp 2 _ p2 O O);obtain⟨H0,rfl,h2,-⟩:=oC (hp 3 _ p3 O O);exact⟨⟨x,w,L,H0⟩,O,h1,h2⟩
theorem F6 {n:Nat}{cs:List PV}(h:tyP lay.get (n+2) 65 cs):∃w:LR,cs=eLd w:=by
 obtain⟨parts,rfl,hl,hp⟩:=kT h O
 match parts,hl,hp with
 |[p0,p1,p2,p3,p4],_,hp =>
  obtain⟨a0,rfl⟩:=y7 (hp 0 _ p0 O O) O;obtain⟨a1,rfl⟩:=nX (hp 1 _ p1 O O) O;obtain⟨a2,rfl⟩:=nX (hp 2 _ p2 O O) O;obtain⟨a3,rfl⟩:=nX (hp 3 _ p3 O O) O;obtain⟨a4,rfl⟩:=nX (hp 4 _ p4 O O) O;exact⟨⟨a0,a1,a2,a3,a4⟩,O⟩
theorem dec_Sh {c:PV}(h:argW lay.get 80 c):∃s:SHP,c = .agg (fR s)/\s.Len:=by
 obtain⟨cs,rfl,h⟩:∃cs,c = .agg cs/\tyP lay.get 12 80 cs:=h;obtain⟨parts,rfl,hl,hp⟩:=kT h O
 match parts,hl,hp with
 |[p0,p1,p2,p3,p4],_,hp =>
  obtain⟨nm,rfl⟩:=y7 (hp 0 _ p0 O O) O;obtain⟨len,rfl,-⟩:=dec_int (hp 1 _ p1 O O);obtain⟨r1,rfl,hl1,hr1⟩:=jX (hp 2 _ p2 O O) O;obtain⟨w,rfl⟩:=F6 (hp 3 _ p3 O O);obtain⟨r2,rfl,hl2,hr2⟩:=jX (hp 4 _ p4 O O) O;obtain⟨st,rfl,hz⟩:=fA (f:=eT) (p:=fun t=>t.L.length<=9223372036854775807/\t.H0.length<=9223372036854775807) fun row hrow=>HP (hr1 row hrow);obtain⟨it,rfl,-⟩:=fA (f:=eLd) (p:=fun _=>True) fun row hrow=>by
   obtain⟨a,rfl⟩:=F6 (hr2 row hrow);exact⟨a,O,trivial⟩
  rw[List.length_map]at hl1 hl2;exact⟨⟨nm,len,st,w,it⟩,by simp[fR,eN],um hl1,um hl2,hz⟩
def FI (t:ST):Bool:=decide (t.L.length<=3)&&decide (t.H0.length<=4)
def Ho (w:LR):Bool:=decide (w.nm.length<=50)
def pw (s:SHP):Bool:=decide (s.st.length<=3)&&decide (s.it.length<=6)&&decide (s.nm.length<=50)&&s.st.all FI&&s.it.all Ho&&decide (s.light.nm.length<=50)
theorem Hb {s:SHP}(h:pw s=true):SlimS s:=by
 simp only[pw,Bool.and_eq_true,decide_eq_true_eq,List.all_eq_true]at h;obtain⟨⟨⟨⟨⟨h1,-⟩,-⟩,h2⟩,-⟩,-⟩:=h;refine⟨h1,fun t ht=>?_⟩;have:=h2 t ht;simp[FI]at this;exact this.1
set_option maxRecDepth 20000 in
theorem DC (s:SHP):Ret Tryz.prog .shared 31 [.agg (fR s)] (.bool (pw s)):=by
 have hml:((s.st.map eT).length:Int)=s.st.length:=ak;have hmi:((s.it.map eLd).length:Int)=s.it.length:=ak;generalize hf:pw s=E;rw[pw]at hf;obtain⟨nm,len,st,light,it⟩:=s;simp only at *
 refine Ret.of_pwp layOk mixed Go.Proofs.Tryz.func31 O Y O O ?_;refine H ?_;rw[hml];refine Gn O O O ?_ ?_<;>intro h
 .have h1:=ay h;clear h;rw[decide_eq_false (show ¬st.length<=3 by omega)]at hf;simp only[Bool.false_and]at hf;subst hf;exact fW
 have h1:=aH h;clear h;rw[decide_eq_true (show st.length<=3 by omega),Bool.true_and]at hf;refine H ?_;rw[hmi];refine Gn O O O ?_ ?_<;>intro h
 .have h2:=ay h;clear h;rw[decide_eq_false (show ¬it.length<=6 by omega)]at hf;simp only[Bool.false_and]at hf;subst hf;exact fW
 have h2:=aH h;clear h;rw[decide_eq_true (show it.length<=6 by omega),Bool.true_and]at hf;refine D ?_ ?_<;>intro h
 .have h3:50<(nm.length:Int):=ay h;clear h;rw[decide_eq_false (show ¬nm.length<=50 by omega)]at hf;simp only[Bool.false_and]at hf;subst hf;exact fW
 have h3:¬50<(nm.length:Int):=aH h;clear h;rw[decide_eq_true (show nm.length<=50 by omega),Bool.true_and]at hf;refine H ?_;refine ar (fun k:Nat=>k<=st.length/\∀j t,j<k->st[j]? = some t->FI t=true) (fun k=>[(1,.ptr 1 1 0 0),(3,I (k:Nat))]) (fun _=>[(1,1,⟨80,9,[fR ⟨nm,len,st,light,it⟩],2⟩)]) (fun k=>st.length-k) 0 ⟨Nat.zero_le _,fun j t hj=>absurd hj J⟩ ⟨O,O,O,trivial⟩ ?_;rintro k s1 ⟨hk,hall⟩;refine H ?_;rw[hml];refine bS O ?_ ?_<;>intro h
 .have hlt:k<st.length:=by have:=ay h;omega
  clear h;obtain⟨t,hx⟩:=aO hlt;have hmL:((t.L.map eN).length:Int)=t.L.length:=ak;have hmH:((t.H0.map eN).length:Int)=t.H0.length:=ak;have hw:=ej k;have bad:FI t=false->false=E:=fun h=>by
   rw[<-hf,show st.all FI=false from List.all_eq_false.2 ⟨t,a_ hx,by rw[h];decide⟩,Bool.false_and,Bool.false_and]
  refine aJ hx ?_;refine H ?_;rw[hmL];refine Gn O O O ?_ ?_<;>intro h
  .have g1:=ay h;clear h;have:=bad (by rw[FI,decide_eq_false J,Bool.false_and]);subst this;exact fW
  have g1:=aH h;clear h;refine aJ hx ?_;refine H ?_;rw[hmH];refine bS O ?_ ?_<;>intro h
  .have g2:=ay h;clear h;have:=bad (by rw[FI,decide_eq_false (show ¬t.H0.length<=4 by omega),Bool.and_false]);subst this;exact fW
  have g2:=aH h;clear h;refine H ?_;refine⟨k+1,⟨hlt,fun j u hj hu=>?_⟩,J,O,congrArg I hw,O,trivial⟩;rcases Nat.lt_or_ge j k with g|g
  .exact hall j u g hu
  .rw[show j=k by omega,hx]at hu;cases hu;rw[FI,decide_eq_true J,decide_eq_true J];rfl
 .have hge:k=st.length:=by have:=aH h;omega
  clear h;subst hge;rw[show st.all FI=true from List.all_eq_true.2 fun t ht=>by
   obtain⟨j,hj⟩:=List.mem_iff_getElem?.1 ht
   exact hall j t (bu hj).1 hj,Bool.true_and]at hf
  refine H ?_;refine ar (fun k:Nat=>k<=it.length/\∀j w,j<k->it[j]? = some w->Ho w=true) (fun k=>[(1,.ptr 1 1 0 0),(4,I (k:Nat))]) (fun _=>[(1,1,⟨80,9,[fR ⟨nm,len,st,light,it⟩],2⟩)]) (fun k=>it.length-k) 0 ⟨Nat.zero_le _,fun j t hj=>absurd hj J⟩ ⟨O,O,O,trivial⟩ ?_;rintro k s2 ⟨hk2,hall2⟩;refine H ?_;rw[hmi];refine bS O ?_ ?_<;>intro h
  .have hlt:k<it.length:=by have:=ay h;omega
   clear h;obtain⟨w,hx⟩:=aO hlt;have hw:=ej k;refine aJ hx ?_;refine D ?_ ?_<;>intro h
   .have g2:=ay h;clear h;have:false=E:=by rw[<-hf,show it.all Ho=false from List.all_eq_false.2 ⟨w,a_ hx,by rw[Ho,decide_eq_false J];decide⟩,Bool.false_and]
    subst this;exact fW
   have g2:=aH h;clear h;refine H ?_;refine⟨k+1,⟨hlt,fun j u hj hu=>?_⟩,J,O,congrArg I hw,O,trivial⟩;rcases Nat.lt_or_ge j k with g|g
   .exact hall2 j u g hu
   .rw[show j=k by omega,hx]at hu;cases hu;rw[Ho,decide_eq_true J]
  .have hge:k=it.length:=by have:=aH h;omega
   clear h;subst hge;rw[show it.all Ho=true from List.all_eq_true.2 fun t ht=>by
    obtain⟨j,hj⟩:=List.mem_iff_getElem?.1 ht
    exact hall2 j t (bu hj).1 hj,Bool.true_and]at hf
   have hd:decide ((light.nm.length:Int)<=50)=E:=by rw[<-hf,decide_eq_decide];omega
   refine H ?_;exact eW O O (by rw[hd])
theorem Ei:RR.zero.sz 3:=⟨Nat.zero_le _,Nat.zero_le _⟩
theorem v_ {s:SHP}(hs:s.Len){l:List SR}(hd:n7 l)(hsh:n_ l 10 4):∃(P Q:BR) (e:Int),Ret Tryz.prog .shared 33 [.agg (fR s),.sl (l.map eS)] (.tup [.agg (eB P),I e])/\Ret Tryz.prog .shared 34 [.agg (fR s),.sl (l.map eS)] (.tup [.agg (eB Q),I e])/\Ret Tryz.prog .shared 37 [.agg (eB P),.agg (eB Q)] (.bool true):=by
 by_cases he:cE s=0
 rotate_left
 .exact⟨bZero,bZero,_,Ba s hs he l,xz s hs he l,Bf⟩
 obtain⟨m1,m2,mq⟩:=uj (lU he);have sh:ShB ⟨0,RR.zero,l⟩:=⟨(show i64 0 from⟨Y,Y⟩),hd,Ei,hsh⟩;obtain⟨l1,l2⟩:=G8 sh;have hw:i64 (sM (s.light::s.it)):=⟨J,J⟩;have ha:(ofQ (qX s)).sz 12:=tS mq Y;have hb:(wB s l).Lim:=⟨hw,ha,(G9 sh).l⟩;have hp:(pB s l).Lim:=⟨hw,ha,EV sh fun x hx=>GH sh hx⟩;have l1:l.length<=1000:=l1;have l2:∀x∈l,x.k.M.length<=1000/\x.k.S.length<=1000:=l2;have p1:=vK s hs he l hb hp l1 fun x hx=>(l2 x hx).1;have p2:=ra s hs he l hb;have p3:=Ap (yL s l) hp hb (by show(l.map vN).length<=1000;rw[List.length_map];exact l1) (fun x hx=>by
  obtain⟨y,hy,rfl⟩:=List.mem_map.1 (show x∈l.map vN from hx);refine⟨?_,(l2 y hy).2⟩;show(y.k.M.map l9).length<=_
  rw[List.length_map];exact(l2 y hy).1) (bH (pB s l))
 rw[<-vZ (yL s l)]at p2;exact⟨_,_,_,p1,p2,p3⟩
theorem Ca {s:SHP}(hs:s.Len)(hsl:SlimS s)(d:Int):(mz s d).Le:=by
 rw[mz];split
 .rename_i hf;obtain⟨f1,f2⟩:=wF hf;obtain⟨d1,d2⟩:=r7 f2;obtain⟨hg,-,-⟩:=yk hs f1 hsl (d:=d.toNat) J;by_cases h0:bH (oI s d.toNat)=0
  .exact(Ia hg h0).1
  .rw[cV,if_neg h0];exact n3 _ _ pT
 .exact n3 _ _ pT
set_option maxRecDepth 20000 in
theorem ships_law (s:SHP)(hs:s.Len)(d:Int)(l:List SR)(hll:Bt l)(hdl:n7 l):Ret Tryz.prog .shared 6 [.agg (fR s),I d,.sl (l.map eS)] (.bool true):=by
 have aw:=zm;have h1:=DC s;have h2:=xE l hll 10 4 Y Y;have hsl:=fun(h:pw s=true)=>Hb h;have hsh:=fun(h:G6 l 10 4=true)=>FC.1 h;generalize pw s=x1 at *
 generalize G6 l 10 4=x2 at *
 cases x1
 .refine Ret.of_pwp layOk mixed Go.Proofs.Tryz.func6 O Y O O ?_;refine ax aw ?_;refine ax h1 ?_;exact fW
 cases x2
 .refine Ret.of_pwp layOk mixed Go.Proofs.Tryz.func6 O Y O O ?_;refine ax aw ?_;refine ax h1 ?_;refine ax h2 ?_;exact fW
 obtain⟨P,Q,e,w1,w2,w3⟩:=v_ hs hdl (hsh O);obtain⟨f1,f2⟩:=v8 hs (hsl O) d;have hle:=Ca hs (hsl O) d;have c1:=uY _ hle;have c2:=uX _ hle.rz hle.rt;generalize mz s d=S at *
 clear hle hsl hsh;obtain⟨Sa,SF,Sr,Se⟩:=S;simp only[SQ.pv]at *
 refine Ret.of_pwp layOk mixed Go.Proofs.Tryz.func6 O Y O O ?_;refine ax aw ?_;refine ax h1 ?_;refine ax h2 ?_;refine G w1 ?_;refine G w2 ?_;refine G f1 ?_;refine G f2 ?_;refine ax w3 ?_;refine bP ?_ ?_<;>intro h
 rotate_left
 .simp at h
 clear h;refine ax c1 ?_;refine ax c2 ?_;refine H ?_;exact eW O O ak
end Go.Pv
