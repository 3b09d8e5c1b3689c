/- Texts of one hand, gathered: FmB, FcA, PvRg, FcB, FcC, FmC, FmD, FmE, FmF, FmG, FmH, FmI, FcD, FcE, FcF, FcG, FcH, FcI, FcJ, FcK, FcL, FcM, FcN, FcO, FcP, LeC, Shelf, FcQ, FcR, FcS, FcT, FcU, FcV, FdV, FcW, FcX, FcY, FcZ, FdA, FdB, FdC, FdD, FdE, FdF, FdG, FdH, FdI, FdK, FdL, FmK, FdN, FmL, FdT. -/
import Derived.Test.YtmfjgnchaacgnaaGreatBa3
import Derived.Sort.Grow
import Derived.Shelf.GgSortFunc.RowK
import Derived.Shelf.Small.Bits
import Derived.Shelf.Small.Wraps
import Derived.Shelf.Strconv.Itoa0
import Derived.Shelf.Sort.Plain
import Derived.Ground.Names2Prog
import Derived.Shelf.Slices.Clone
import Derived.Shelf.Slices.CompactI
import Derived.Shelf.Slices.SearchI
import Derived.Shelf.Slices.Cells
import Derived.Shelf.Slices.In.SortNone
import Derived.Test.YtmfjgnchaacgnaaGreatProg
import Derived.Lib.SlicesCompact
set_option maxRecDepth 20000
set_option linter.unusedSectionVars false
set_option linter.unusedSimpArgs false
set_option linter.unusedVariables false
set_option linter.unnecessarySimpa false
namespace Go.Pv
structure Bd where
 N:Nat
 X:Nat->Rat
 C:Nat->Rat
 n:Nat->Nat
 S:Nat->Nat->Rat
 M:Nat->Nat->Rat
 w:Rat
 A:Rat
structure Bd.Ok (b:Bd):Prop where
 crv:∀i,i<b.N->Crv (b.n i) (b.S i) (b.M i)
 pos:0<b.w
namespace Bd
variable {b:Bd}
def y (b:Bd)(z t:Rat)(i:Nat):Rat:=b.C i+(z+t*b.X i)
def f (b:Bd)(z t:Rat)(i:Nat):Rat:=fK (b.n i) (b.S i) (b.M i) (b.y z t i)
def F (b:Bd)(z t:Rat):Rat:=am (b.f z t) b.N
def G0 (b:Bd)(z t:Rat):Rat:=am (fun i=>b.f z t i*b.X i) b.N
def e (b:Bd)(z t:Rat):Rat:=b.G0 z t-b.w*b.A
def Least (b:Bd)(z t:Rat):Prop:=b.F z t=b.w/\∀z',z'<z->b.F z' t<b.w
def Bal (b:Bd)(z t:Rat):Prop:=b.F z t=b.w/\b.G0 z t=b.w*b.A
theorem Io (h:b.Ok){z z' t:Rat}(hz:z<=z'){i:Nat}(hi:i<b.N):b.f z t i<=b.f z' t i:=iB (h.crv i hi) (by rw[y,y];grind)
theorem HY (h:b.Ok){z z' t:Rat}(hz:z<=z'):b.F z t<=b.F z' t:=oo fun _ hi=>Io h hz hi
theorem f_nn (h:b.Ok){z t:Rat}{i:Nat}(hi:i<b.N):0<=b.f z t i:=I5 (h.crv i hi)
theorem ER (h:b.Ok)(z t z' t':Rat){i:Nat}(hi:i<b.N):0<=(b.f z t i-b.f z' t' i)*(b.y z t i-b.y z' t' i):=by
 have hc:=h.crv i hi;by_cases hy:b.y z t i<=b.y z' t' i
 .have h1:=iB hc hy;have:(b.f z t i-b.f z' t' i)*(b.y z t i-b.y z' t' i)=(b.f z' t' i-b.f z t i)*(b.y z' t' i-b.y z t i):=aW;rw[this];exact Rat.mul_nonneg (by rw[f,f];grind) aW
 .have h1:=iB hc (x:=b.y z' t' i) (z:=b.y z t i) aW;exact Rat.mul_nonneg (by rw[f,f];grind) aW
theorem GS (b:Bd)(z t z' t':Rat):am (fun i=>(b.f z t i-b.f z' t' i)*(b.y z t i-b.y z' t' i)) b.N=(b.F z t-b.F z' t')*(z-z')+(b.G0 z t-b.G0 z' t')*(t-t'):=by
 have key:∀n,am (fun i=>(b.f z t i-b.f z' t' i)*(b.y z t i-b.y z' t' i)) n=(am (b.f z t) n-am (b.f z' t') n)*(z-z')+(am (fun i=>b.f z t i*b.X i) n-am (fun i=>b.f z' t' i*b.X i) n)*(t-t'):=by
  intro n
  induction n with
  |zero=>simp only[am];grind
  |succ n ih =>
   simp only[am];rw[ih,y,y];grind
 exact key b.N
theorem vF (h:b.Ok){z t z' t':Rat}(hF:b.F z t=b.F z' t')(hG:b.G0 z t=b.G0 z' t'\/t=t'){i:Nat}(hi:i<b.N):b.f z t i=b.f z' t' i:=by
 have h0:am (fun i=>(b.f z t i-b.f z' t' i)*(b.y z t i-b.y z' t' i)) b.N=0:=by
  rw[GS,hF];rcases hG with hG|ht
  .rw[hG];grind
  .rw[ht];grind
 have h1:=mn (f:=fun i=>(b.f z t i-b.f z' t' i)*(b.y z t i-b.y z' t' i)) (n:=b.N) (i:=i) (fun k hk=>ER h z t z' t' hk) hi;rw[h0]at h1;have h2:=ER h z t z' t' hi;have h3:(b.f z t i-b.f z' t' i)*(b.y z t i-b.y z' t' i)=0:=aW;rcases Rat.mul_eq_zero.1 h3 with h4|h4
 .grind
 .rw[f,f,show b.y z t i=b.y z' t' i by grind]
theorem Eb (h:b.Ok){z t z':Rat}(hF:b.F z t=b.F z' t):b.G0 z t=b.G0 z' t:=cy fun i hi=>by rw[vF h hF (.inr O) hi]
def Inl (b:Bd)(p:Nat->Nat)(z t:Rat):Prop:=∀i,i<b.N->InL (b.n i) (b.S i) (p i) (b.y z t i)
def Inc (b:Bd)(p:Nat->Nat)(z t:Rat):Prop:=∀i,i<b.N->BU (b.n i) (b.S i) (p i) (b.y z t i)
def k (b:Bd)(p:Nat->Nat)(i:Nat):Rat:=bI (b.M i) (p i)
def o (b:Bd)(p:Nat->Nat)(i:Nat):Rat:=ke (b.S i) (b.M i) (p i)
def Kh (b:Bd)(p:Nat->Nat):Rat:=am (b.k p) b.N
def Kc (b:Bd)(p:Nat->Nat):Rat:=am (fun i=>b.k p i*b.X i) b.N
def Kp (b:Bd)(p:Nat->Nat):Rat:=am (fun i=>b.k p i*b.X i*b.X i) b.N
def Fo (b:Bd)(p:Nat->Nat):Rat:=am (fun i=>b.k p i*b.C i-b.o p i) b.N
def Go (b:Bd)(p:Nat->Nat):Rat:=am (fun i=>(b.k p i*b.C i-b.o p i)*b.X i) b.N
theorem Inl.c {p:Nat->Nat}{z t:Rat}(h:b.Inl p z t):b.Inc p z t:=fun i hi=>(h i hi).c
theorem yy (h:b.Ok)(z t:Rat):∃p,b.Inl p z t:=by
 have:=fun i=>Classical.em (i<b.N);refine⟨fun i=>if hi:i<b.N then Classical.choose (InL.get (h.crv i hi) (b.y z t i)) else 0,fun i hi=>?_⟩;simp only[dif_pos hi];exact Classical.choose_spec (InL.get (h.crv i hi) (b.y z t i))
theorem f_at (h:b.Ok){p:Nat->Nat}{z t:Rat}(hp:b.Inc p z t){i:Nat}(hi:i<b.N):b.f z t i=b.k p i*b.y z t i-b.o p i:=nq (h.crv i hi) (hp i hi)
theorem F_at (h:b.Ok){p:Nat->Nat}{z t:Rat}(hp:b.Inc p z t):b.F z t=b.Kh p*z+b.Kc p*t+b.Fo p:=by
 rw[F,cy (g:=fun i=>b.k p i*b.y z t i-b.o p i) fun i hi=>f_at h hp hi];have key:∀n,am (fun i=>b.k p i*b.y z t i-b.o p i) n=am (b.k p) n*z+am (fun i=>b.k p i*b.X i) n*t+am (fun i=>b.k p i*b.C i-b.o p i) n:=by
  intro n
  induction n with
  |zero=>simp only[am];grind
  |succ n ih=>simp only[am];rw[ih,y];grind
 exact key b.N
theorem G_at (h:b.Ok){p:Nat->Nat}{z t:Rat}(hp:b.Inc p z t):b.G0 z t=b.Kc p*z+b.Kp p*t+b.Go p:=by
 rw[G0,cy (g:=fun i=>(b.k p i*b.y z t i-b.o p i)*b.X i) fun i hi=>by rw[f_at h hp hi]];have key:∀n,am (fun i=>(b.k p i*b.y z t i-b.o p i)*b.X i) n=am (fun i=>b.k p i*b.X i) n*z+am (fun i=>b.k p i*b.X i*b.X i) n*t+am (fun i=>(b.k p i*b.C i-b.o p i)*b.X i) n:=by
  intro n
  induction n with
  |zero=>simp only[am];grind
  |succ n ih=>simp only[am];rw[ih,y];grind
 exact key b.N
theorem Ir (h:b.Ok){p:Nat->Nat}{z t:Rat}(hp:b.Inc p z t){i:Nat}(hi:i<b.N):0<=b.k p i:=B_ (h.crv i hi) (hp i hi).1
theorem Ap {p:Nat->Nat}{z t:Rat}(hp:b.Inl p z t):∃d,0<d/\∀d',0<=d'->d'<=d->b.Inl p (z-d') t:=by
 have key:∀m,m<=b.N->∃d:Rat,0<d/\∀d',0<=d'->d'<=d->∀i,i<m->InL (b.n i) (b.S i) (p i) (b.y (z-d') t i):=by
  intro m
  induction m with
  |zero=>exact fun _=>⟨1,Y,fun _ _ _ i hi=>by omega⟩
  |succ m ih =>
   intro hm;obtain⟨d,h1,h2⟩:=ih J;obtain⟨g1,g2,g3⟩:=hp m J;obtain⟨d2,h3,h4⟩:∃d2:Rat,0<d2/\∀k,p m=k+1->b.S m k<b.y z t m-d2:=by
    cases hpm:p m with
    |zero=>exact⟨1,Y,fun k hk=>by omega⟩
    |succ k =>
     have:=g2 k hpm;refine⟨(b.y z t m-b.S m k)/2,aW,fun k' hk'=>?_⟩;obtain rfl:k=k':=J;grind
   refine⟨sH d d2,by rw[sH];grind,fun d' h5 h6 i hi=>?_⟩;have h7:d'<=d/\d'<=d2:=by rw[sH]at h6;grind
   by_cases he:i<m
   .exact h2 d' h5 h7.1 i he
   .obtain rfl:i=m:=J;have hy:b.y (z-d') t i=b.y z t i-d':=by rw[y,y];grind
    refine⟨g1,fun k hk=>?_,fun hk=>?_⟩
    .have:=h4 k hk;rw[hy];grind
    .have:=g3 hk;rw[hy];grind
 obtain⟨d,h1,h2⟩:=key b.N (aP);exact⟨d,h1,fun d' h3 h4 i hi=>h2 d' h3 h4 i hi⟩
theorem Least.K (h:b.Ok){p:Nat->Nat}{z t:Rat}(hl:b.Least z t)(hp:b.Inl p z t):0<b.Kh p:=by
 obtain⟨d,h1,h2⟩:=Ap hp;have h3:=F_at h hp.c;have h4:=F_at h (h2 d aW Rat.le_refl).c;have h5:=hl.2 (z-d) aW;rw[h4]at h5;rw[hl.1]at h3;have h6:0<b.Kh p*d:=aW;have h7:0<=b.Kh p:=fC fun i hi=>Ir h hp.c hi;by_cases h8:b.Kh p=0
 .rw[h8]at h6;grind
 .grind
theorem Least.uniq {z z' t:Rat}(h1:b.Least z t)(h2:b.Least z' t):z=z':=by
 rcases Classical.em (z<z') with hc|hc
 .have:=h2.2 z hc;rw[h1.1]at this;grind
 .rcases Classical.em (z'<z) with hd|hd
  .have:=h1.2 z' hd;rw[h2.1]at this;grind
  .grind
def ln (b:Bd)(p:Nat->Nat)(t:Rat):Rat:=(b.w-b.Fo p-b.Kc p*t)/b.Kh p
theorem ln_at (h:b.Ok){p:Nat->Nat}{z t:Rat}(hF:b.F z t=b.w)(hp:b.Inc p z t)(hK:0<b.Kh p):z=b.ln p t:=by
 have h1:=F_at h hp;rw[hF]at h1;have hne:b.Kh p≠0:=aW;rw[ln];grind
theorem E5 (h:b.Ok){p:Nat->Nat}{t:Rat}(hp:b.Inc p (b.ln p t) t)(hK:0<b.Kh p):b.F (b.ln p t) t=b.w:=by
 have hne:b.Kh p≠0:=aW;rw[F_at h hp,ln];grind
def eln (b:Bd)(p:Nat->Nat)(t:Rat):Rat:=b.Kc p*b.ln p t+b.Kp p*t+b.Go p-b.w*b.A
theorem Cy (h:b.Ok){p:Nat->Nat}{t:Rat}(hp:b.Inc p (b.ln p t) t):b.e (b.ln p t) t=b.eln p t:=by rw[e,G_at h hp,eln]
end Bd
set_option maxHeartbeats 2000000
attribute [local irreducible] PWP POps PQuiet PSem aw aq ai aj
open Go.Proofs
structure CR where
 S:List Int
 M:List RR
structure SR where
 x:Int
 c:RR
 k:CR
structure BR where
 w:Int
 a:RR
 l:List SR
def eN (z:Int):List PV:=[I z]
def eC (c:CR):List PV:=[.sl (c.S.map eN),.sl (c.M.map eR)]
def eS (s:SR):List PV:=I s.x::(eR s.c++eC s.k)
def eB (b:BR):List PV:=I b.w::(eR b.a++[.sl (b.l.map eS)])
def RR.sz (x:RR)(n:Nat):Prop:=x.n.l.length<=n/\x.d.l.length<=n
theorem RR.sz.v {x:RR}{n:Nat}(h:x.sz n):Vq x x.val n:=Vq.raw h.1 h.2
def i64 (z:Int):Prop := -9223372036854775808<=z/\z<=9223372036854775807
structure CR.Lim (c:CR):Prop where
 s:∀z∈c.S,i64 z
 m:∀x∈c.M,x.sz 12
 ls:c.S.length<=1000000000
 lm:c.M.length<=1000000000
theorem cP (p:Rat):sgn p<0↔p<0:=by unfold sgn;split<;>(try split)<;>simp_all<;>omega
theorem gA (p:Rat):sgn p=0↔p=0:=by
 unfold sgn;split
 .rename_i h;constructor
  .intro h1;omega
  .intro h1;subst h1;grind
 .split<;>simp_all
theorem iS (p:Rat):0<sgn p↔0<p:=by
 unfold sgn;split
 .rename_i h;constructor
  .intro h1;omega
  .intro h1;grind
 .rename_i h;split
  .rename_i h1;subst h1;simp
  .constructor
   .intro _;grind
   .intro _;omega
theorem Ee (p:Rat):0<=sgn p↔0<=p:=by
 have h1:=cP p;constructor
 .intro h;have:¬p<0:=fun h2=>by have:=h1.2 h2;omega
  grind
 .intro h;have:¬sgn p<0:=fun h2=>by have:=h1.1 h2;grind
  omega
theorem pI (p:Rat):sgn p<=0↔p<=0:=by
 have h1:=iS p;constructor
 .intro h;have:¬0<p:=fun h2=>by have:=h1.2 h2;omega
  grind
 .intro h;have:¬0<sgn p:=fun h2=>by have:=h1.1 h2;grind
  omega
def fO (c:CR)(i:Nat):Int :=
 if c.S.getD i 0 < -10000000\/10000000<c.S.getD i 0\/(c.M.getD i RR.zero).val<0 then 2
 else if 0<i/\c.S.getD i 0<=c.S.getD (i-1) 0 then 10 else 0
def eL (c:CR):Nat->Nat->Int
 |_,0=>0
 |i,k+1=>if fO c i=0 then eL c (i+1) k else fO c i
def cN (c:CR):Int:=if 40<c.S.length then 8 else if c.M.length≠c.S.length then 11 else eL c 0 c.S.length
theorem bi {α:Type}{l:List α}{i:Nat}{d:α}(h:i<l.length):l[i]? = some (l.getD i d):=by
 rw[List.getD_eq_getElem?_getD,List.getElem?_eq_getElem h];rfl
set_option maxRecDepth 20000 in
theorem eJ (c:CR)(hc:c.Lim):Ret Tryz.prog .shared 245 [.agg (eC c)] (I (cN c)):=by
 obtain⟨S,M⟩:=c;obtain⟨hs,hm,hls,hlm⟩:=hc;simp only at hs hm hls hlm;have hSl:(S.map eN).length=S.length:=ah;have hMl:(M.map eR).length=M.length:=ah;generalize hE:cN ⟨S,M⟩=E;simp only[cN]at hE;show Ret Tryz.prog .shared 245 [.agg [.sl (S.map eN),.sl (M.map eR)]] (I E);refine Ret.of_pwp layOk mixed Go.Proofs.Tryz.func245 O Y O O ?_;refine D ?_ ?_<;>intro h
 .have h1:=aC h;rw[if_pos J]at hE;subst hE;exact cp
 have h40:¬40<S.length:=by have h1:=aG h;omega
 rw[if_neg h40]at hE;clear h;refine D ?_ ?_<;>intro h
 .have h1:M.length≠S.length:=by simp at h;omega
  rw[if_pos h1]at hE;subst hE;exact cp
 have hSM:M.length=S.length:=by simp at h;omega
 rw[if_neg J]at hE;clear h;refine H ?_;refine ap (fun i:Nat=>i<=S.length/\eL ⟨S,M⟩ i (S.length-i)=E) (fun i=>[(17,.sl (S.map eN)),(18,I S.length),(19,I (i:Nat)),(1,.ptr 1 1 0 0)]) (fun _=>[(1,1,⟨134,2,[[.sl (S.map eN),.sl (M.map eR)]],2⟩)]) (fun i=>S.length-i) 0 ⟨Nat.zero_le _,hE⟩ ⟨O,by rw[<-hSl];rfl,O,O,O,trivial⟩ ?_;intro i s ⟨hi,hF⟩;refine D ?_ ?_<;>intro h
 .have hlt:i<S.length:=by have:=aC h;omega
  clear h;obtain⟨k,hk⟩:∃k,S.length-i=k+1:=⟨S.length-i-1,J⟩;rw[hk,eL]at hF;have hx:=bi (d:=0) hlt;have hmx:=bi (l:=M) (i:=i) (d:=RR.zero) J;have hse:fO ⟨S,M⟩ i=fO ⟨S,M⟩ i:=O
  conv at hse=>rhs;rw[fO]
  simp only at hse;generalize fO ⟨S,M⟩ i=se at *
  have hxb:=hs _ (bc hx);have hmv:=(hm _ (bc hmx)).v;have hsg:=HK (M.getD i RR.zero) (hx:=hmv) Y;have hsl:=cP (M.getD i RR.zero).val;generalize hx0:S.getD i 0=x at *
  generalize M.getD i RR.zero=m at *
  generalize sgn m.val=sg at *
  refine aS hx ?_;refine dE ?_ ?_<;>intro h
  .have h1:=aC h;clear h;have hS2:se=2:=by rw[hse,if_pos (.inl h1)]
   rw[hS2,if_neg Y]at hF;subst hF;exact cp
  .have h1:=aG h;clear h;refine dE ?_ ?_<;>intro h
   .have h2:=aC h;clear h;have hS2:se=2:=by rw[hse,if_pos (.inr (.inl h2))]
    rw[hS2,if_neg Y]at hF;subst hF;exact cp
   .have h2:=aG h;clear h;refine aS hmx ?_;refine ar hsg ?_;refine D ?_ ?_<;>intro h
    .have h3:=aC h;clear h;have hS2:se=2:=by rw[hse,if_pos (.inr (.inr (hsl.1 h3)))]
     rw[hS2,if_neg Y]at hF;subst hF;exact cp
    .have h3:=aG h;clear h;rw[if_neg (by rw[<-hsl];omega)]at hse;refine dE ?_ ?_<;>intro h
     .have h4:=aC h;clear h;obtain⟨j,rfl⟩:∃j,i=j+1:=⟨i-1,J⟩;have hw1:IntKind.i64.wrap (((j+1:Nat):Int)-1)=((j:Nat):Int):=by rw[wrap_i64 J J];omega
      have hy:=bi (l:=S) (i:=j) (d:=0) J;rw[show j+1-1=j by omega]at hse;generalize S.getD j 0=y at *
      refine H ?_;rw[hw1];refine Gj O O O O O O O hy O ?_;refine D ?_ ?_<;>intro h
      .have h5:=aC h;clear h;have hS2:se=10:=by rw[hse,if_pos ⟨J,h5⟩]
       rw[hS2,if_neg Y]at hF;subst hF;exact cp
      .have h5:=aG h;clear h;have hS2:se=0:=by rw[hse,if_neg (fun h=>h5 h.2)]
       rw[if_pos hS2]at hF;have hw:IntKind.i64.wrap (((j+1:Nat):Int)+1)=((j+1+1:Nat):Int):=by rw[wrap_i64 J J];omega
       refine H ?_;exact⟨j+1+1,⟨J,by rw[show S.length-(j+1+1)=k by omega];exact hF⟩,J,O,O,congrArg I hw,O,O,trivial⟩
     .have h4:=aG h;clear h;have hS2:se=0:=by rw[hse,if_neg (fun h=>h4 J)]
      rw[if_pos hS2]at hF;have hw:=fc i;refine H ?_;exact⟨i+1,⟨J,by rw[show S.length-(i+1)=k by omega];exact hF⟩,J,O,O,congrArg I hw,O,O,trivial⟩
 .have hie:i=S.length:=by have:=aG h;omega
  rw[hie,Nat.sub_self,eL]at hF;subst hF;exact cp
end Go.Pv
namespace Go.Pv
open Go.RowKit
variable [Globs]
def qI:List (Tmp × PV)->(Nat->PV)->Nat->PV
 |[],f=>f
 |(p,v)::l,f=>qI l fun r=>bif Nat.beq r p then v else f r
theorem qJ {E:Env}:∀(ps:List Tmp) (cs:List PV) (vs:List Value) (f:Nat->PV) (tmps:Array Value),ps.length=cs.length->cs.length=vs.length->(∀p∈ps,p<tmps.size)->(∀t,Rep E (f t) (tmps.getD t undef)) ->
  (∀(i:Nat) (c:PV) (v:Value),cs[i]? = some c->vs[i]? = some v->Rep E c v) ->
  ((ps.zip vs).foldl (fun t q=>t.setIfInBounds q.1 q.2) tmps).size=tmps.size/\∀t,Rep E (qI (ps.zip cs) f t) (((ps.zip vs).foldl (fun t q=>t.setIfInBounds q.1 q.2) tmps).getD t undef)
 |[],[],[],f,tmps,_,_,_,hf,_=>⟨rfl,hf⟩
 |p::ps,c::cs,v::vs,f,tmps,h1,h2,hp,hf,hd=>by
  have hp0:p<tmps.size:=hp p (.head _);have ih:=qJ ps cs vs (fun r=>bif Nat.beq r p then c else f r) (tmps.setIfInBounds p v) (by simpa using h1) (by simpa using h2) (fun q hq=>by simpa using hp q (.tail _ hq)) (fun t=>by
   by_cases ht:t=p
   .subst ht;have e1:(tmps.setIfInBounds t v).getD t undef=v:=by simp[hp0]
    rw[e1];simpa using hd 0 c v O O
   .have e1:(tmps.setIfInBounds p v).getD t undef=tmps.getD t undef:=by simp[Array.getElem?_setIfInBounds_ne (Ne.symm ht)]
    rw[e1,bm ht]
    exact hf t) (fun i c' v' e1 e2=>hd (i+1) c' v' (by simpa using e1) (by simpa using e2))
  refine⟨?_,fun t=>?_⟩
  .rw[List.zip_cons_cons,List.foldl_cons,ih.1];simp
  .rw[List.zip_cons_cons,List.zip_cons_cons,List.foldl_cons];exact ih.2 t
 |[],_::_,_,_,_,h,_,_,_,_=>by simp at h
 |[],[],_::_,_,_,_,h,_,_,_=>by simp at h
 |_::_,[],_,_,_,h,_,_,_,_=>by simp at h
 |_::_,_::_,[],_,_,_,h,_,_,_=>by simp at h
def cq (ps:Array Tmp)(asg body:Code)(st:LoopState)(pend:Option Code)(regs:Nat->PV):Cont:=⟨0,0,[[.lbl ps asg body st pend regs]],4⟩
def zJ (s:St)(kL g:Nat)(ps:Array Tmp)(asg body:Code)(regs:Nat->PV)(d:Nat)(K:St->Prop):Exit->St->Prop
 |.normal,s'=>s'.own kL=(g,some (cq ps asg body .busy none regs))/\K (({ reg:=s.reg,own:=(s'.setOwn kL g (some (cq ps asg body .ready none regs))).own }:St).putR d (.bool true))
 |.exit id,s'=>s'.own kL=(g,some (cq ps asg body .busy none regs))/\K (({ reg:=s.reg,own:=(s'.setOwn kL g (some (cq ps asg body .done (some (.exit id)) regs))).own }:St).putR d (.bool false))
 |.ret,s'=>s'.own kL=(g,some (cq ps asg body .busy none regs))/\K (({ reg:=s.reg,own:=(s'.setOwn kL g (some (cq ps asg body .done (some .ret) regs))).own }:St).putR d (.bool false))
 |_,_=>False
def mD (s:St)(kL g:Nat)(ps:Array Tmp)(asg body:Code)(Q:Exit->St->Prop):Exit->St->Prop
 |.normal,s' | .ret,s'=>(s'.own kL=(g,some (cq ps asg body .ready none s.reg))/\Q .normal { reg:=s.reg,own:=(s'.setOwn kL (g+1) none).own }) \/
   (∃id,s'.own kL=(g,some (cq ps asg body .done (some (.exit id)) s.reg))/\Q (.exit id) { reg:=s.reg,own:=(s'.setOwn kL (g+1) none).own }) \/
   (s'.own kL=(g,some (cq ps asg body .done (some .ret) s.reg))/\Q .ret { reg:=s.reg,own:=(s'.setOwn kL (g+1) none).own })
 |_,_=>False
section
variable {P:Program}{L:Lay}{C:Ctx}{γ:Nat->Option Nat}{s:St}{a:Act}{w:World}
theorem Sim.yl_at (_h:Sim C γ s a w){k g:Nat}{c:Cont}{v:Value}(hr:Rep (ao C γ s w) (.yl k g) v)(ho:s.own k=(g,some c)):∃b,γ k=some b/\v = .func (.yield b) #[] #[]:=by
 cases hr with
 |d h=>cases h
 |yl hg hl=>exact(hl (by simp[ao,ho]) ⟨γ k,c.ty,c.sz,c.rows.length⟩ (by simp[ao,ho])).2
theorem Sim.turnLoop {s':St}{a':Act}{w3:World}{C2:Ctx}{γ':Nat->Option Nat}(hs':Sim C2 γ' s' a' w3){kL g b:Nat}{ps:Array Tmp}{asg body:Code}{regs:Nat->PV}{st:LoopState}{pend:Option Code}(ho:s'.own kL=(g,some (cq ps asg body st pend regs)))(hb:γ' kL=some b) :
  ∃rec:Loop,w3.heap[b]? = some (.loop rec)/\rec.state=st/\rec.pending=pend/\∀(st2:LoopState) (pend2:Option Code),Sim C2 γ' (s'.setOwn kL g (some (cq ps asg body st2 pend2 regs))) a' (w3.putObj b (.loop { rec with state:=st2,pending:=pend2 })):=by
 have hit:=(hs'.sites kL _ (by rw[ho])).it b hb O (show(3:Nat)<=4 by decide);obtain⟨rec,regs',h1,h2,h3',h3,h4,h5⟩:oz (ao C2 γ' s' w3) b (cq ps asg body st pend regs).rows:=hit;have h1:w3.heap[b]? = some (.loop rec):=h1;simp only[cq,List.cons.injEq,PV.lbl.injEq,and_true]at h2;obtain⟨e1,e2,e3,e4,e5,e6⟩:=h2;subst e6;refine⟨rec,h1,e4.symm,e5.symm,fun st2 pend2=>?_⟩;obtain⟨hp,hnew⟩:=gP (o' := .loop { rec with state:=st2,pending:=pend2 }) h1;have hnc:∀cur T f,w3.heap[b]? ≠ some (.cells cur T f):=fun cur T f e=>by rw[h1]at e;cases e
 have hle:=jx (c':=cq ps asg body st2 pend2 regs) hs' ho hb hnc hp O O (aP);refine gQ hs' ho hb hnc hp O O (aP) ⟨(fun e=>by cases e),(fun b' _ _ hk=>by simp[cq]at hk),fun b' hb' _ _=>?_,(fun b' _ hz=>by simp[cq]at hz)⟩;cases hb';show oz _ _ _;exact⟨{ rec with state:=st2,pending:=pend2 },regs,hnew,by simp[cq,<-e1,<-e2,<-e3],h3',h3,h4,fun t=>(h5 t).mono hle⟩
theorem Em {o:Oper}{args:Array Operand}{tys:Array TypeId}{tf d kL g:Nat}{ps:Array Tmp}{asg body:Code}{regs:Nat->PV}{K:St->Prop}(ho:o.op = .call ⟨.value (.tmp tf),args,tys⟩)(hd:o.dst=some d)(hy:s.reg tf = .yl kL g)
  (hown:s.own kL=(g,some (cq ps asg body .ready none regs))) (hps:args.size=ps.size)
  (h:PWP P L asg (aw (fun s2=>s2.own kL=(g,some (cq ps asg body .ready none regs))/\PWP P L body (zJ s kL g ps asg body regs d K) { reg:=s2.reg,own:=(s2.setOwn kL g (some (cq ps asg body .busy none regs))).own }) (fun _ _=>False)) { reg:=qI (ps.toList.zip (args.toList.map s.ev)) regs,own:=s.own }):KB P L s o K:=by
 intro ro n C a w Q hG ⟨γ,hs⟩ hN hQ;have hyr:=hs.ev (.tmp tf);rw[show s.ev (.tmp tf) = .yl kL g from hy]at hyr;obtain⟨b,hb,hv⟩:=hs.yl_at hyr hown;have hit:=(hs.sites kL _ (by rw[hown])).it b hb O (show(3:Nat)<=4 by decide);obtain⟨rec,regs',h1,h2,h3',h3,h4,h5⟩:oz (ao C γ s w) b (cq ps asg body .ready none regs).rows:=hit;have h1:w.heap[b]? = some (.loop rec):=h1;simp only[cq,List.cons.injEq,PV.lbl.injEq,and_true]at h2;obtain⟨e1,e2,e3,e4,e5,e6⟩:=h2;subst e6;refine⟨fun _ _=>trivial,?_⟩;have hexec:(o.semAt (Fr ro).round a.eval).run P w = .ok (.round b rec.fn ((rec.params.zip (args.map a.eval)).foldl (fun tmps (t,a)=>tmps.setIfInBounds t a) rec.tmps) rec.assign rec.body) w:=by
  rw[Oper.semAt_eq _ _ _ (fun c e=>by rw[ho]at e;cases e)];simp only[execOp,ho,resolve,hv,Deferred.ofValue,Sem.run_bind,Sem.run_pure,Result.andThen_ok,invoke];rw[show(#[]++args.map a.eval:Array Value)=args.map a.eval by simp];exact run_yield h1 (by rw[<-e1];simpa using hps)
 rw[hexec,Oper.uponIn_round];refine⟨fun e=>by simp[Fr,Fence.wide]at e,?_⟩;refine roundIn_of_wpIn trivial ?_;rw[<-e2,<-e3];rw[<-e2]at h3';rw[<-e3]at h3;let C2:Ctx:=⟨C.B,C.X,C.w0,rec.tmps.size,fun c v=>C.keep c v\/∃t,c=s.reg t/\v=a.tmps.getD t undef,[]⟩;have hG2:Good P L C2:=⟨hG.lay,hG.x,hG.mixed,hG.glob⟩;have hfold:(rec.params.zip (args.map a.eval)).foldl (fun tmps (t,a)=>tmps.setIfInBounds t a) rec.tmps=(ps.toList.zip (args.toList.map a.eval)).foldl (fun t q=>t.setIfInBounds q.1 q.2) rec.tmps:=by
  rw[<-e1,<-Array.foldl_toList,Array.toList_zip,Array.toList_map]
 obtain⟨b1,b2⟩:=qJ (E:=ao C γ s w) ps.toList (args.toList.map s.ev) (args.toList.map a.eval) regs rec.tmps (by simpa using hps.symm) ah
  (fun p hp=>by rw[e1]at hp;simpa using List.all_eq_true.1 h4 p hp) (fun t=>h5 t) (fun i c v q1 q2=>by
   rw[List.getElem?_map]at q1 q2;cases hx:args.toList[i]? with
   |none=>rw[hx]at q1;simp at q1
   |some x=>rw[hx]at q1 q2;simp at q1 q2;subst q1;subst q2;exact hs.ev x)
 rw[hfold];have hsim2:SimE C2 { reg:=qI (ps.toList.zip (args.toList.map s.ev)) regs,own:=s.own } { tmps:=(ps.toList.zip (args.toList.map a.eval)).foldl (fun t q=>t.setIfInBounds q.1 q.2) rec.tmps,defers:=[] } w:=by
  refine⟨γ,O,b1,b2,hs.sites,hs.inj,hs.base,hs.below,hs.top,?_⟩;rintro c v (hk|⟨t,rfl,rfl⟩)
  .exact hs.kept c v hk
  .exact hs.regs t
 rw[CK];refine wpIn_mono (PWP.soundX (X:=fun A B=>A=B) (fun _=>rfl) (fun h k=>h.trans k) (fun h=>by subst h;exact .refl _) (r:=false) (fun h=>by cases h) asg _ C2 _ _ _ hG2 h3' (fun _ hq=>hq) hsim2 h) ?_;rintro e aA wA ⟨C',sA,rfl,⟨γA,hsA⟩,hq⟩;have he:e = .normal:=by
  cases e
  case normal=>rfl
  all_goals exact absurd hq id
 subst he;obtain⟨hownA,hbodyA⟩:=hq;show ∃w₂,_;have hkyA:=hsA.kept (.yl kL g) (.func (.yield b) #[] #[]) (.inr ⟨tf,hy.symm,hv.symm⟩);obtain⟨bA,hbA,hvA⟩:=hsA.yl_at hkyA hownA;have hbb:b=bA:=by injection hvA with q;injection q with q
 subst hbb;obtain⟨rec2,r1,r2,r3,r4⟩:=hsA.turnLoop hownA hbA;have hs1:=r4 .busy none;have hw2:wA.putObj b (.loop { rec2 with state := .busy,pending:=none })=wA.putObj b (.loop { rec2 with state := .busy }):=by
  have:({ rec2 with state := .busy,pending:=none }:Loop)={ rec2 with state := .busy }:=by rw[<-r3]
  rw[this]
 rw[hw2]at hs1;refine⟨_,run_beginRound r1 r2,?_⟩;have hsimB:SimE C2 { reg:=sA.reg,own:=(sA.setOwn kL g (some (cq ps asg body .busy none regs))).own } aA (wA.putObj b (.loop { rec2 with state := .busy })):=⟨γA,hs1⟩;refine wpIn_mono (PWP.soundX (X:=fun A B=>A=B) (fun _=>rfl) (fun h k=>h.trans k) (fun h=>by subst h;exact .refl _) (r:=false) (fun h=>by cases h) body _ C2 _ _ _ hG2 h3 (fun _ hq=>hq) hsimB hbodyA) ?_
 have fin:∀ {s':St} {a':Act} {w3:World} (jump:Option Code) (st:LoopState),st=(if jump.isNone then .ready else .done)->SimE C2 s' a' w3->s'.own kL=(g,some (cq ps asg body .busy none regs)) ->
   K (({ reg:=s.reg,own:=(s'.setOwn kL g (some (cq ps asg body st jump regs))).own }:St).putR d (.bool jump.isNone)) ->
   ∃v w4,(Instr.endRound b jump).run P w3 = .ok v w4/\∃s'',SimE C s'' (a.put o.dst v) w4/\K s'':=by
  rintro s' a' w3 jump st rfl ⟨γ',hs'⟩ hown' hk;have hky:=hs'.kept (.yl kL g) (.func (.yield b) #[] #[]) (.inr ⟨tf,hy.symm,hv.symm⟩);obtain⟨b',hb',hvb⟩:=hs'.yl_at hky hown';have hbb:b'=b:=by injection hvb with q;injection q with q;exact q.symm
  subst hbb;obtain⟨rec3,q1,q2,q3,q4⟩:=hs'.turnLoop hown' hb';have hs4:=q4 (if jump.isNone then .ready else .done) jump;refine⟨_,_,run_endRound jump q1,_,⟨γ',?_⟩,hk⟩;have hback:Sim C γ' { reg:=s.reg,own:=(s'.setOwn kL g (some (cq ps asg body (if jump.isNone then .ready else .done) jump regs))).own } a (w3.putObj b' (.loop { rec3 with state:=if jump.isNone then .ready else .done,pending:=jump })) :=
   ⟨hs.defers,hs.size,fun r=>hs4.kept _ _ (.inr ⟨r,O,O⟩),hs4.sites,hs4.inj,hs4.base,hs4.below,hs4.top,fun c v hk=>hs4.kept c v (.inl hk)⟩
  rw[hd];rw[hd]at hN;exact hback.put (d:=some d) hN (.d (.bool _))
 rintro e a' w3 ⟨C',s',rfl,h',hq⟩;cases e
 case normal=>exact fin none .ready O h' hq.1 hq.2
 case ret=>exact fin (some .ret) .done O h' hq.1 hq.2
 case exit id=>exact fin (some (.exit id)) .done O h' hq.1 hq.2
 all_goals exact hq.elim
theorem vi {Q:Exit->St->Prop}{g:Operand}{ps:Array Tmp}{assign body:Code}(h:wv P L g ps assign body Q s):PWP P L (.rangeFunc g ps assign body) Q s:=Gh.of h
theorem rG {Q:Exit->St->Prop}{g:Operand}{gf:FuncId}{caps:List PV}{fn:Func}{bodyI:Code}{ps:Array Tmp}{asg body:Code}(kL:Nat){gn:Nat}{oc:Option Cont}(hg:s.ev g = .clo gf caps)(hf:P.funcs[gf]? = some fn)(hb:fn.body=some bodyI)
  (hn : (fn.name == "runtime.NumGoroutine") = false) (hlen : Nat.ble (1 + caps.length) fn.ntmps = true) (hc : kI fn.ntmps bodyI = true) (hres : fn.results = #[]) (hown : s.own kL = (gn, oc))
  (h:PWP P L bodyI (mD s kL (gn+1) ps asg body Q) { reg:=fun t=>((.yl kL (gn+1))::caps).getD t (.raw undef),own:=(s.setOwn kL (gn+1) (some (cq ps asg body .ready none s.reg))).own }):wv P L g ps asg body Q s:=by
 intro n C a w hG ⟨γ,hs⟩ hcode hQ;simp only[fL,Bool.true_and,Bool.and_eq_true]at hcode;obtain⟨⟨hpsN,hasg⟩,hbody⟩:=hcode;refine wpIn_rangeFunc fun fnid _=>?_;have hge:=hs.ev g;rw[hg]at hge;obtain⟨vs,hv,hl,hd⟩:=hge.clo_inv;have hcal:fu P gf:=⟨fn,hf,hn,by simp[hb]⟩;obtain⟨rec,hrec⟩:∃rec:Loop,rec={ state := .ready,pending:=none,fn:=fnid,tmps:=a.tmps,params:=ps,assign:=asg,body:=body,defers:=w.heap.size }:=⟨_,O⟩;refine⟨w.heap.size+1,[wY w.heap.size],(w.alloc (.deferred (some []))).alloc (.loop rec),{ target := .fn (.func gf) vs.toArray,args:=#[.func (.yield (w.heap.size+1)) #[] #[]] },(w.alloc (.deferred (some []))).alloc (.loop rec),gf,
  #[Value.func (.yield (w.heap.size+1)) #[] #[]]++vs.toArray,(w.alloc (.deferred (some []))).alloc (.loop rec),by rw[hrec];exact run_enterLoop_outer _ _ _ _ _,?_,fun _ _=>trivial,?_,fun e=>by simp[Fr,Fence.wide]at e,?_⟩
 .simp only[resolve,hv];simp[go_sem]
 .simp only[invoke];exact ma hcal _
 refine callsIn_of_wp hf hb trivial ?_;have hbel:Below w.heap.size w (w.alloc (.deferred (some []))):=(Below.refl _ w).alloc (aP) _;have hD:=hs.ext hbel;have hsz:(w.alloc (.deferred (some []))).heap.size=w.heap.size+1:=ah;have hT:Turn C γ s (w.alloc (.deferred (some []))) ((w.alloc (.deferred (some []))).alloc (.loop rec)) kL (some (w.alloc (.deferred (some []))).heap.size):=Turn.alloc _ kL;have hle:=hT.le hD (cq ps asg body .ready none s.reg);have hfin:s.fin kL (cq ps asg body .ready none s.reg)=s.setOwn kL (gn+1) (some (cq ps asg body .ready none s.reg)):=by rw[St.fin,hown]
 have hs1:=hT.sim (c:=cq ps asg body .ready none s.reg) hD ⟨(fun e=>by cases e),(fun b' _ _ hk=>by simp[cq]at hk),fun b' hb' _ _=>by
  cases hb';show oz _ _ _;refine⟨rec,s.reg,bj _ _,by rw[hrec];rfl,by rw[hrec];simpa [hs.size] using hasg,by rw[hrec];simpa [hs.size] using hbody,by rw[hrec];simpa [hs.size] using hpsN,fun t=>?_⟩
  rw[show rec.tmps=a.tmps by rw[hrec]];exact(hD.regs t).mono hle,(fun b' _ hz=>by simp[cq]at hz)⟩
 rw[hfin,hsz]at hs1;rw[hfin,hsz]at hle;have hDobj:((w.alloc (.deferred (some []))).alloc (.loop rec)).heap[w.heap.size]? = some (.deferred (some [])):=by
  rw[Below.heap_alloc _ _ _ ah];exact bj w _
 have hDok:eE C (iD γ kL (some (w.heap.size+1))) (s.setOwn kL (gn+1) (some (cq ps asg body .ready none s.reg))) ((w.alloc (.deferred (some []))).alloc (.loop rec)) w.heap.size:=by
  refine⟨by simp;omega,fun hx=>?_,fun k c hk hb'=>?_⟩
  .have:=hG.x _ hx;have:=hs.top;omega
  .by_cases hkk:k=kL
   .subst hkk;rw[bU]at hb';injection hb' with q;omega
   .rw[aF hkk]at hk;rw[fJ hkk]at hb';have:=(hs.base k c _ hk hb').2;omega
 let C1:Ctx:=⟨C.B,C.X,C.w0,fn.ntmps,fun c v=>C.keep c v\/(∃t,c=s.reg t/\v=a.tmps.getD t undef)\/(c = .dfd/\v = .pointer (some ⟨w.heap.size,0,none⟩))\/(c = .yl kL (gn+1)/\v = .func (.yield (w.heap.size+1)) #[] #[]),[]⟩;have hG1:Good P L C1:=⟨hG.lay,hG.x,hG.mixed,hG.glob⟩;have hyl:Rep (ao C (iD γ kL (some (w.heap.size+1))) (s.setOwn kL (gn+1) (some (cq ps asg body .ready none s.reg))) ((w.alloc (.deferred (some []))).alloc (.loop rec))) (.yl kL (gn+1)) (.func (.yield (w.heap.size+1)) #[] #[]):=by
  refine .yl (by simp[ao,ak]) fun _ l hl=>?_;simp only[ao,ak,bU,Option.map_some,Option.some.injEq]at hl;subst hl;exact⟨O,_,O,O⟩
 have hlen':1+vs.length<=fn.ntmps:=by rw[<-hl];simpa using hlen
 have hargs:∀t,Rep (ao C (iD γ kL (some (w.heap.size+1))) (s.setOwn kL (gn+1) (some (cq ps asg body .ready none s.reg))) ((w.alloc (.deferred (some []))).alloc (.loop rec))) (((.yl kL (gn+1))::caps).getD t (.raw undef))
   ((#[Value.func (.yield (w.heap.size+1)) #[] #[]]++vs.toArray++Array.replicate (fn.ntmps-(#[Value.func (.yield (w.heap.size+1)) #[] #[]]++vs.toArray).size) undef).getD t undef):=by
  intro t;cases t with
  |zero =>
   have e2:(#[Value.func (.yield (w.heap.size+1)) #[] #[]]++vs.toArray++Array.replicate (fn.ntmps-(#[Value.func (.yield (w.heap.size+1)) #[] #[]]++vs.toArray).size) undef).getD 0 undef=Value.func (.yield (w.heap.size+1)) #[] #[]:=by
    simp[Array.getElem?_append]
   rw[e2];exact hyl
  |succ t =>
   rcases Nat.lt_or_ge t vs.length with hlt|hge
   .have hlt':t<caps.length:=J;have e1:((PV.yl kL (gn+1))::caps).getD (t+1) (.raw undef)=caps[t]:=by simp[hlt']
    have e2:(#[Value.func (.yield (w.heap.size+1)) #[] #[]]++vs.toArray++Array.replicate (fn.ntmps-(#[Value.func (.yield (w.heap.size+1)) #[] #[]]++vs.toArray).size) undef).getD (t+1) undef=vs[t]:=by
     rw[Array.getD_eq_getD_getElem?,Array.getElem?_append_left aU,Array.getElem?_append_right ah];simp[hlt]
    rw[e1,e2];exact(hd t caps[t] vs[t] (List.getElem?_eq_getElem hlt') (List.getElem?_eq_getElem hlt)).mono ((fX hbel hs.base).trans' hle)
   .have e1:((PV.yl kL (gn+1))::caps).getD (t+1) (.raw undef) = .raw undef:=by simp[List.getElem?_eq_none (by omega:caps.length<=t)]
    have e2:(#[Value.func (.yield (w.heap.size+1)) #[] #[]]++vs.toArray++Array.replicate (fn.ntmps-(#[Value.func (.yield (w.heap.size+1)) #[] #[]]++vs.toArray).size) undef).getD (t+1) undef=undef:=by
     rw[Array.getD_eq_getD_getElem?,Array.getElem?_append_right aU];rcases Nat.lt_or_ge (t+1-(#[Value.func (.yield (w.heap.size+1)) #[] #[]]++vs.toArray).size) (fn.ntmps-(#[Value.func (.yield (w.heap.size+1)) #[] #[]]++vs.toArray).size) with h1|h1
     .rw[Array.getElem?_replicate,if_pos h1];rfl
     .rw[Array.getElem?_eq_none (by simpa using h1)];rfl
    rw[e1,e2];exact .d (.raw _)
 have hsim:SimE C1 { reg:=fun t=>((.yl kL (gn+1))::caps).getD t (.raw undef),own:=(s.setOwn kL (gn+1) (some (cq ps asg body .ready none s.reg))).own }
   { tmps:=#[Value.func (.yield (w.heap.size+1)) #[] #[]]++vs.toArray++Array.replicate (fn.ntmps-(#[Value.func (.yield (w.heap.size+1)) #[] #[]]++vs.toArray).size) undef,defers:=[] } ((w.alloc (.deferred (some []))).alloc (.loop rec)):=by
  refine⟨iD γ kL (some (w.heap.size+1)),O,by simp[C1];omega,hargs,hs1.sites,hs1.inj,hs1.base,hs1.below,hs1.top,?_⟩;rintro c v (hk|⟨t,rfl,rfl⟩|⟨rfl,rfl⟩|⟨rfl,rfl⟩)
  .exact hs1.kept c v hk
  .exact hs1.regs t
  .exact .dfd hDok hDobj
  .exact hyl
 refine wpIn_mono (PWP.soundX (X:=fun A B=>A=B) (fun _=>rfl) (fun h k=>h.trans k) (fun h=>by subst h;exact .refl _) (r:=false) (fun h=>by cases h) bodyI _ C1 _ _ _ hG1 hc (fun _ hq=>hq) hsim h) ?_
 have fin:∀ {s':St} {a':Act} {w3:World} (pend:Option Code) (st:LoopState),st ≠ .busy->SimE C1 s' a' w3->s'.own kL=(gn+1,some (cq ps asg body st pend s.reg)) ->
   ∃w4,(Instr.endLoop (w.heap.size+1)).run P w3 = .ok pend w4/\∃C4,Ext C C4/\SimE C4 { reg:=s.reg,own:=(s'.setOwn kL (gn+1+1) none).own } { a with defers:=[wY w.heap.size]++a.defers } w4:=by
  rintro s' a' w3 pend st hst ⟨γ',hs'⟩ hown';have hky:=hs'.kept (.yl kL (gn+1)) (.func (.yield (w.heap.size+1)) #[] #[]) (.inr (.inr (.inr ⟨O,O⟩)));obtain⟨b',hb',hvb⟩:=hs'.yl_at hky hown';have hbb:b'=w.heap.size+1:=by injection hvb with q;injection q with q;exact q.symm
  subst hbb;obtain⟨rec3,q1,q2,q3,q4⟩:=hs'.turnLoop hown' hb';have hs4:=q4 .exhausted pend;have hw4:w3.putObj (w.heap.size+1) (.loop { rec3 with state := .exhausted,pending:=pend })=w3.putObj (w.heap.size+1) (.loop { rec3 with state := .exhausted }):=by
   have:({ rec3 with state := .exhausted,pending:=pend }:Loop)={ rec3 with state := .exhausted }:=by rw[<-q3]
   rw[this]
  rw[hw4]at hs4;refine⟨_,by rw[<-q3];exact run_endLoop q1 (by rw[q2];exact hst),?_⟩;obtain⟨hs5,_,_⟩:=hs4.drop hG1.x (ak s' kL (gn+1) _);have hoo:((s'.setOwn kL (gn+1) (some (cq ps asg body .exhausted pend s.reg))).setOwn kL (gn+1+1) none).own=(s'.setOwn kL (gn+1+1) none).own:=by
   funext r;by_cases hr:r=kL
   .subst hr;rw[ak,ak]
   .rw[aF hr,aF hr,aF hr]
  have key:∀ow,ow=(s'.setOwn kL (gn+1+1) none).own->Sim C1 γ' { reg:=s'.reg,own:=ow } a' (w3.putObj (w.heap.size+1) (.loop { rec3 with state := .exhausted })) ->
    ∃C4,Ext C C4/\SimE C4 { reg:=s.reg,own:=(s'.setOwn kL (gn+1+1) none).own } { a with defers:=[wY w.heap.size]++a.defers } (w3.putObj (w.heap.size+1) (.loop { rec3 with state := .exhausted })):=by
   rintro ow rfl hs6;refine⟨⟨C.B,C.X,C.w0,C.N,fun c v=>C.keep c v\/(c = .dfd/\v = .pointer (some ⟨w.heap.size,0,none⟩)),w.heap.size::C.dfs⟩,⟨O,O,O,O,fun c v hk => .inl hk,fun hdk=>⟨?_,?_⟩⟩,γ',?_,hs.size,fun r=>hs6.kept _ _ (.inr (.inl ⟨r,O,O⟩)),hs6.sites,hs6.inj,hs6.base,hs6.below,hs6.top,?_⟩
   .rw[List.nodup_cons];refine⟨fun hm=>?_,hdk.1⟩;have:=hs.kept _ _ (hdk.2 _ hm).2;cases this with
    |d hd=>cases hd
    |dfd h1 _=>exact absurd h1.1 (Nat.lt_irrefl _)
   .intro D0 hDm;rcases List.mem_cons.1 hDm with rfl|hDm
    .exact⟨hs.top,.inr ⟨O,O⟩⟩
    .exact⟨(hdk.2 D0 hDm).1,.inl (hdk.2 D0 hDm).2⟩
   .show [wY w.heap.size]++a.defers=_;rw[hs.defers];rfl
   .rintro c v (hk|⟨rfl,rfl⟩)
    .exact hs6.kept c v (.inl hk)
    .exact hs6.kept _ _ (.inr (.inr (.inl ⟨O,O⟩)))
  exact key _ hoo hs5
 have ends:∀ {s':St} {a':Act} {w3:World},SimE C1 s' a' w3->mD s kL (gn+1) ps asg body Q .ret s'->a'.defers=[]/\∃v,(results fn a'.tmps).run P w3 = .ok v w3 /\
   rangePost (Fr none) n P (w.heap.size+1) (BO Ext C Q) { a with defers:=[wY w.heap.size]++a.defers } (.returned v) w3:=by
  intro s' a' w3 h' hq;refine⟨by obtain⟨_,h'⟩:=h';exact h'.defers,.tuple #[],by simp[results,hres],?_⟩;rcases hq with⟨ho,hq⟩|⟨id,ho,hq⟩|⟨ho,hq⟩
  .obtain⟨w4,e1,C4,e2,e3⟩:=fin none .ready ah h' ho;exact⟨none,w4,e1,C4,_,e2,e3,hq⟩
  .obtain⟨w4,e1,C4,e2,e3⟩:=fin (some (.exit id)) .done ah h' ho;exact⟨some (.exit id),w4,e1,wpIn_exit ⟨C4,_,e2,e3,hq⟩⟩
  .obtain⟨w4,e1,C4,e2,e3⟩:=fin (some .ret) .done ah h' ho;exact⟨some .ret,w4,e1,wpIn_ret ⟨C4,_,e2,e3,hq⟩⟩
 rintro e a' w3 ⟨C',s',rfl,h',hq⟩;cases e
 case normal=>exact ends h' hq
 case ret=>exact ends h' hq
 all_goals exact hq.elim
end
end Go.Pv
set_option maxHeartbeats 2000000
namespace Go.Pv
attribute [local irreducible] PWP POps PQuiet PSem aw aq ai aj
open Go.Proofs
def CR.s (c:CR)(k:Nat):Rat:=(c.S.getD k 0:Int)
def CR.m (c:CR)(k:Nat):Rat:=(c.M.getD k RR.zero).val
def Fc (c:CR):Nat->RR
 |0=>ofQ ((0:Int):Rat)
 |k+1=>c.M.getD k RR.zero
theorem uK (c:CR)(hc:c.Lim)(k:Nat):Vq (c.M.getD k RR.zero) (c.m k) 12:=by
 refine⟨O,?_⟩;rw[List.getD_eq_getElem?_getD];cases h:c.M[k]? with
 |none=>exact⟨Nat.zero_le _,Nat.zero_le _⟩
 |some x=>exact hc.m x (bc h)
theorem qH (c:CR)(hc:c.Lim)(k:Nat):Vq (Fc c k) (bI c.m k) 12:=by
 cases k with
 |zero =>
  refine⟨ofQ_val _,?_⟩;have:=(kr (HQ.int (z:=0) (h:=⟨Y⟩)).ok).ok;show(ofQ ((0:Int):Rat)).n.l.length<=12/\(ofQ ((0:Int):Rat)).d.l.length<=12;exact⟨by have:=this.1;omega,by have:=this.2;omega⟩
 |succ k=>exact uK c hc k
theorem nJ {c:CR}(hc:c.Lim)(k:Nat):i64 (c.S.getD k 0):=by
 rw[List.getD_eq_getElem?_getD];cases h:c.S[k]? with
 |none=>exact⟨Y,Y⟩
 |some x=>exact hc.s x (bc h)
def HG (q0 q2 q3 g4 g7 b4:Nat)(rec x2 x3 x1004:Cont)(before sum:RR):List (Nat × Nat × Cont) :=
 [(2000,q0,rec),(2002,q2,x2),(2003,q3,x3),(4,b4,⟨42,4,[eR before],2⟩),(1004,g4,x1004),(1007,g7,⟨42,4,[eR sum],2⟩)]
theorem fM {s:St}(k:Nat):Ghost s (s.setOwn k ((s.own k).1+2) none):=Ghost.drop O
theorem sy {L:Lay}{fn:Func}{K:St->PV->Prop}{s:St}{t:Nat}{v:PV}(h:fn.results.toList=[.tmp t])(h1:s.reg t=v)(hk:K s v):aj L fn K .ret s:=by
 unfold aj;refine⟨[s.reg t],True/\True,by rw[h];rfl,⟨trivial,trivial⟩,?_⟩;rw[h1];exact hk
theorem bH {P:Program}{L:Lay}{x:Code}{Q:Exit->St->Prop}{s:St}(R:List (Nat × PV))(O0:List (Nat × Nat × Cont))(hf:Fit s R O0)(h:∀s1:St,PWP P L x Q (s1.over R O0)):PWP P L x Q s:=by
 have:=h s;rwa [Fit.over hf]at this
set_option maxRecDepth 20000 in
theorem pC {Q:Exit->St->Prop}{a b:Nat}{asg body:Code}{sc:St}(c:CR)(hc:c.Lim)(y:RR){q:Rat}{n:Nat}(hy:Vq y q n)(hn:n<=9000000)(hSM:c.M.length=c.S.length)(V:Nat->RR){q0 q2 q3 g4 g7:Nat}{x1004:Cont}(s0:St)
  (hown:Fit s0 [] [(2000,q0,cq #[a,b] asg body .ready none sc.reg),(2002,q2,⟨134,2,[eC c],2⟩),(2003,q3,⟨42,4,[eR y],2⟩),(1004,g4,x1004),(1007,g7,⟨42,4,[eR (V 0)],2⟩)])
  (hround:∀i,i<c.S.length->¬q-c.s i<0->∀(b4:Nat) (bf:RR) (own:Nat->Nat × Option Cont),Fit { reg:=fun _ => .raw undef,own:=own } [] (HG q0 q2 q3 g4 g7 b4 (cq #[a,b] asg body .ready none sc.reg) ⟨134,2,[eC c],2⟩ ⟨42,4,[eR y],2⟩ x1004 bf (V i)) ->
   ∀oA:Exit->St->Prop,(∀s2,Fit s2 [] (HG q0 q2 q3 g4 g7 b4 (cq #[a,b] asg body .busy none sc.reg) ⟨134,2,[eC c],2⟩ ⟨42,4,[eR y],2⟩ x1004 bf (V (i+1)))->oA .normal s2) ->
   PWP Tryz.prog lay.get asg (aw (fun s2=>s2.own 2000=(q0,some (cq #[a,b] asg body .ready none sc.reg))/\PWP Tryz.prog lay.get body oA { reg:=s2.reg,own:=(s2.setOwn 2000 q0 (some (cq #[a,b] asg body .busy none sc.reg))).own }) (fun _ _=>False))
    { reg:=qI [(a,.agg (eR (ofQ (c.m i-bI c.m i)))),(b,.agg (eR (ofQ (q-c.s i))))] sc.reg,own:=own })
  (hend:∀i,i<=c.S.length->(i=c.S.length\/(i<c.S.length/\q-c.s i<0))->∀(b4:Nat) (bf:RR) (s2:St),Fit s2 [] (HG q0 q2 q3 g4 g7 b4 (cq #[a,b] asg body .ready none sc.reg) ⟨134,2,[eC c],2⟩ ⟨42,4,[eR y],2⟩ x1004 bf (V i)) ->
   Q .normal { reg:=sc.reg,own:=(s2.setOwn 2000 (q0+1) none).own }) :
  PWP Tryz.prog lay.get ((Tryz.f291.body).getD .skip) (mD sc 2000 q0 #[a,b] asg body Q) { reg:=fun t=>[PV.yl 2000 q0,.ptr 2002 q2 0 0,.ptr 2003 q3 0 0].getD t (.raw undef),own:=s0.own }:=by
 have hz:=fi 0 Y Y;have hSl:(c.S.map eN).length=c.S.length:=ah;rw[<-Fit.over (l:=[]) hown];generalize hrd:cq #[a,b] asg body .ready none sc.reg=rd at *
 refine G hz ?_;refine H ?_;refine ap (fun k:Nat × Nat × RR=>k.1<=c.S.length/\k.2.2=Fc c k.1) (fun k=>[(0,.yl 2000 q0),(1,.ptr 2002 q2 0 0),(2,.ptr 2003 q3 0 0),(4,.ptr 4 k.2.1 0 0),(10,.sl (c.S.map eN)),(11,I c.S.length),(12,I (k.1:Nat))])
  (fun k=>HG q0 q2 q3 g4 g7 k.2.1 rd ⟨134,2,[eC c],2⟩ ⟨42,4,[eR y],2⟩ x1004 k.2.2 (V k.1)) (fun k=>c.S.length-k.1) (0,_,Fc c 0) ⟨Nat.zero_le _,O⟩ ⟨O,O,O,O,O,by rw[<-hSl];rfl,O,O,O,O,O,O,O,trivial⟩ ?_
 rintro⟨i,b4,bf⟩ st ⟨hi,hbf⟩;simp only at hi hbf;subst hbf;dsimp only;refine D ?_ ?_<;>intro h
 .have hlt:i<c.S.length:=by have:=aC h;omega
  clear h;have hx:=bi (d:=0) hlt;have hxb:=nJ hc i;have hnum:=fi (c.S.getD i 0) hxb.1 hxb.2;have hzb:Zb (c.S.getD i 0):=aK hxb.1 hxb.2;have hsub:=jc y (ofQ ((c.S.getD i 0:Int):Rat)) (hx:=hy) J Y;have hfar:Vq (ofQ (q-((c.S.getD i 0:Int):Rat))) (q-c.s i) (n+1+4+1):=Vq.ofQ (h:=@HQ.sub _ _ (n+1) 4 hy.hq HQ.int);have hsg:=HK (ofQ (q-((c.S.getD i 0:Int):Rat))) (hx:=hfar) J;have hsl:=cP (q-c.s i);have hw:IntKind.i64.wrap (((i:Nat):Int)+1)=((i+1:Nat):Int):=by
   have:=c.S.length;rw[wrap_i64 J (by have:=hc.ls;omega)];omega
  refine aS hx ?_
  (repeat ((fail_if_success (with_reducible refine aQ 4 ?_));refine cx O ?_))
  refine aE (fM 7) ?_;refine aZ 4 1 [17,18,19,20,7] [] aT O ?_;refine G hnum ?_;refine G hsub ?_;refine H ?_;refine DB 13 [21,22,23,24,25,26,27,28,29,30,31,32,33] aT ?_;refine ar hsg ?_;refine dE ?_ ?_<;>intro h
  .have hneg:q-c.s i<0:=hsl.1 (aC h);clear h;refine H ?_;refine rD ?_;refine H ?_;refine .inl ⟨by rw[<-hrd];rfl,?_⟩;exact hend i J (.inr ⟨hlt,hneg⟩) b4 _ _ ⟨O,O,O,O,O,O,trivial⟩
  .have hpos:¬q-c.s i<0:=fun h2=>(aG h) (hsl.2 h2);clear h;have hmx:=bi (l:=c.M) (i:=i) (d:=RR.zero) J;have hmv:=uK c hc i;have hbv:=qH c hc i;have hsub2:=jc (c.M.getD i RR.zero) (Fc c i) (hx:=hmv) (hy:=hbv) Y Y;refine aS hmx ?_;refine G hsub2 ?_;refine H ?_;refine AT O O O (Em (ps:=#[a,b]) (asg:=asg) (body:=body) (regs:=sc.reg) O O O (by rw[hrd];rfl) O ?_);rw[hrd];refine hround i hlt hpos b4 (Fc c i) _ (by exact⟨O,O,O,O,O,O,trivial⟩) _ (fun s2 hf=>?_);rw[<-Fit.over (l:=[]) hf];refine⟨O,?_⟩;refine rD ?_;refine aS hmx ?_;refine H ?_;exact⟨(i+1,b4,Fc c (i+1)),⟨by simp only;omega,O⟩,by simp only;omega,O,O,O,O,O,O,congrArg I hw,by rw[<-hrd];rfl,O,O,O,O,O,trivial⟩
 .have hie:i=c.S.length:=by have:=aG h;omega
  clear h;refine H ?_;refine .inl ⟨by rw[<-hrd];rfl,?_⟩;exact hend i J (.inl hie) b4 _ _ ⟨O,O,O,O,O,O,trivial⟩
def nw:Code->Option (Array Tmp × Code × Code)
 |.rangeFunc _ ps a b=>some (ps,a,b)
 |.seq x y=>match nw x with|some r=>some r|none=>nw y
 |.block _ c=>nw c
 |.loop c=>nw c
 |.cond _ x y=>match nw x with|some r=>some r|none=>nw y
 |_=>none
theorem pr {c:CR}(hc:c.Lim)(k:Nat):HQ (c.m k-bI c.m k) 27:=@HQ.sub _ _ 13 13 (uK c hc k).hq (qH c hc k).hq
theorem DE {c:CR}(hc:c.Lim){q:Rat}{n:Nat}(h:HQ q n)(k:Nat):HQ (q-c.s k) (n+5):=by
 have hb:=nJ hc k;have hzb:Zb (c.S.getD k 0):=aK hb.1 hb.2;exact @HQ.sub _ _ n 4 h HQ.int
theorem yZ {c:CR}(hc:c.Lim){q:Rat}{n:Nat}(h:HQ q n)(k:Nat):HQ (dc c.s c.m q k) (n+32):=by
 rw[dc];split
 .exact HQ.zero.mono J
 .exact(@HQ.mul _ _ 27 (n+5) (pr hc k) (DE hc h k)).mono J
theorem rF {c:CR}(ha:∀k,k+1<c.S.length->c.s k<c.s (k+1)){f:Nat->Rat}{q:Rat}(hf:∀k,q-c.s k<0->f k=0){i:Nat}(hi:i<=c.S.length)(h:i=c.S.length\/(i<c.S.length/\q-c.s i<0)):am f i=am f c.S.length:=by
 rcases h with h|⟨h1,h2⟩
 .rw[h]
 .have key:∀m,i+m<=c.S.length->am f (i+m)=am f i/\(i+m<c.S.length->q-c.s (i+m)<0):=by
   intro m
   induction m with
   |zero=>intro _;exact⟨rfl,fun _=>h2⟩
   |succ m ih =>
    intro hm;obtain⟨e1,e2⟩:=ih J;have h3:=e2 J;refine⟨by rw[Nat.add_succ,am,e1,hf _ h3];grind,fun hl=>?_⟩;have h4:=ha (i+m) J;rw[show i+(m+1)=i+m+1 by omega];grind
  have:=(key (c.S.length-i) J).1;rw[show i+(c.S.length-i)=c.S.length by omega]at this;exact this.symm
theorem qS {c:CR}:∀(k i:Nat),eL c i k=0->∀j,i<=j->j<i+k->fO c j=0
 |0,i,_,j,h1,h2=>by omega
 |k+1,i,h,j,h1,h2=>by
  rw[eL]at h;by_cases hs:fO c i=0
  .rw[if_pos hs]at h;by_cases hj:j=i
   .subst hj;exact hs
   .exact qS k (i+1) h j J J
  .rw[if_neg hs]at h;exact absurd h hs
theorem eM {c:CR}(h:cN c=0):c.S.length<=40/\c.M.length=c.S.length/\(∀k,k<c.S.length -> -10000000<=c.S.getD k 0/\c.S.getD k 0<=10000000/\0<=c.m k)/\∀k,k+1<c.S.length->c.s k<c.s (k+1):=by
 rw[cN]at h;split at h
 .omega
 .rename_i h1;split at h
  .omega
  .rename_i h2;have hs:=qS _ _ h;refine⟨J,J,fun k hk=>?_,fun k hk=>?_⟩
   .have:=hs k J J;rw[fO]at this;split at this
    .omega
    .rename_i h3;refine⟨J,J,?_⟩;rw[CR.m];have:¬(c.M.getD k RR.zero).val<0:=fun h=>h3 (.inr (.inr h));grind
   .have:=hs (k+1) J J;rw[fO]at this;split at this
    .omega
    .split at this
     .omega
     .rename_i h4;have h5:c.S.getD k 0<c.S.getD (k+1) 0:=by
       rw[show k+1-1=k by omega]at h4;omega
      rw[CR.s,CR.s]
      exact_mod_cast h5
theorem zY {c:CR}(h:cN c=0):Crv c.S.length c.s c.m:=⟨(eM h).2.2.2,fun k hk=>((eM h).2.2.1 k hk).2.2⟩
noncomputable def Jd:Array Tmp × Code × Code:=(nw ((Tryz.f258.body).getD .skip)).getD (#[],.skip,.skip)
def y3 (P:Program)(sc:St)(q0 q2 q3 g4 g7 b4:Nat)(pa pb:Nat)(asg body:Code)(x2 x3 x1004:Cont)(bf V0 V1 CH FA:RR):Prop :=
 ∀own:Nat->Nat × Option Cont,Fit { reg:=fun _ => .raw undef,own:=own } [] (HG q0 q2 q3 g4 g7 b4 (cq #[pa,pb] asg body .ready none sc.reg) x2 x3 x1004 bf V0) ->
  ∀oA:Exit->St->Prop,(∀s2,Fit s2 [] (HG q0 q2 q3 g4 g7 b4 (cq #[pa,pb] asg body .busy none sc.reg) x2 x3 x1004 bf V1)->oA .normal s2) ->
  PWP P lay.get asg (aw (fun s2=>s2.own 2000=(q0,some (cq #[pa,pb] asg body .ready none sc.reg))/\PWP P lay.get body oA { reg:=s2.reg,own:=(s2.setOwn 2000 q0 (some (cq #[pa,pb] asg body .busy none sc.reg))).own }) (fun _ _=>False))
   { reg:=qI [(pa,.agg (eR CH)),(pb,.agg (eR FA))] sc.reg,own:=own }
set_option maxRecDepth 20000 in
theorem we {s0:St}{q0 q2 q3 g4 g7 b4:Nat}{x2 x3 x1004:Cont}{bf V0 V1 CH FA PR:RR}(hmul:Ret Tryz.prog .shared 109 [.agg (eR CH),.agg (eR FA)] (.agg (eR PR)))(hadd:Ret Tryz.prog .shared 91 [.agg (eR V0),.agg (eR PR)] (.agg (eR V1))) :
  y3 Tryz.prog (s0.over [(7,.ptr 1007 g7 0 0)] []) q0 q2 q3 g4 g7 b4 20 21 Jd.2.1 Jd.2.2 x2 x3 x1004 bf V0 V1 CH FA:=by
 intro own hf oA hPost;have ho:own=(St.over { reg:=fun _ => .raw undef,own:=own } [] (HG q0 q2 q3 g4 g7 b4 (cq #[20,21] Jd.2.1 Jd.2.2 .ready none (s0.over [(7,.ptr 1007 g7 0 0)] []).reg) x2 x3 x1004 bf V0)).own:=congrArg St.own (Fit.over hf).symm;rw[ho];clear ho hf;generalize (St.mk (fun _ => .raw undef) own)=s1;refine H ?_;refine⟨O,?_⟩;refine cn 5 [22,23,24,25,26] ?_;refine G hmul ?_;refine G hadd ?_;refine H ?_;exact hPost _ ⟨O,O,O,O,O,O,trivial⟩
set_option maxRecDepth 20000 in
theorem BA (c:CR)(hc:c.Lim)(h0:cN c=0)(y:RR){q:Rat}{n:Nat}[hy:Vq y q n](hn:n<=100000):Ret Tryz.prog .shared 258 [.agg (eC c),.agg (eR y)] (.tup [.agg (eR (ofQ (fK c.S.length c.s c.m q))),I 0]):=by
 have hcc:=eJ c hc;rw[h0]at hcc;obtain⟨h40,hSM,-,hasc⟩:=eM h0;have hz:=fi 0 Y Y;rw[show(((0:Int):Rat))=0 from O]at hz;have hsum:∀i,i<=40->Vq (ofQ (am (dc c.s c.m q) i)) (am (dc c.s c.m q) i) (i*(n+1+32+1)+4):=fun i _=>Vq.ofQ (h:=bw i fun k _=>yZ hc hy.hq k);refine Ret.of_pwpR layOk mixed Go.Proofs.Tryz.func258 O Y O O O ?_;refine ar hcc ?_;refine G hz ?_
 (repeat ((fail_if_success (with_reducible refine aQ 5 ?_));refine cx O ?_))
 refine aE (Ghost.move (k:=2) (k':=1002) (t:=2) O O O O) ?_;refine aE (Ghost.move (k:=3) (k':=1003) (t:=3) O O O O) ?_;refine aE (Ghost.move (k:=4) (k':=1004) (t:=4) O O O O) ?_;refine aE (Ghost.move (k:=7) (k':=1007) (t:=7) O O O O) ?_
 ((repeat ((fail_if_success (with_reducible refine aQ 5 ?_));refine cx O ?_));refine aM 2 ?_)
 iterate 2 refine fB O ?_
 refine aY ?_;refine aV O (bT layOk O O Go.Proofs.Tryz.func284 O Y O O ?_)
 (repeat ((fail_if_success (with_reducible refine aQ 1 ?_));refine cx O ?_))
 refine aE (Ghost.move (k:=2) (k':=2002) (t:=2) O O O O) ?_;refine aE (Ghost.move (k:=3) (k':=2003) (t:=3) O O O O) ?_;refine H ?_;refine sy O O ?_;refine aO ?_;refine H ?_;refine bH [(7,.ptr 1007 1 0 0),(4,.ptr 1004 1 0 0),(19,.clo 291 [.ptr 2002 1 0 0,.ptr 2003 1 0 0])] [(2002,1,⟨134,2,[eC c],2⟩),(2003,1,⟨42,4,[eR y],2⟩),(1004,1,⟨42,4,[[.bool false,.nil,.bool false,.nil]],2⟩),(1007,1,⟨42,4,[eR (ofQ 0)],2⟩)] ⟨O,O,O,O,O,O,O,trivial⟩ ?_;intro s3;refine vi (rG (ps:=#[20,21]) (asg:=Jd.2.1) (body:=Jd.2.2) 2000 O Go.Proofs.Tryz.func291 O O O O O O ?_);generalize hq0:(s3.own 2000).1+1=q0;refine pC (q:=q) (n:=n) (q0:=q0) (q2:=1) (q3:=1) (g4:=1) (g7:=1) c hc y hy J hSM (fun i=>ofQ (am (dc c.s c.m q) i)) _ ⟨by rw[<-hq0];rfl,O,O,O,O,trivial⟩ ?_ ?_
 .intro i hi hpos b4 bf;have hmul:=eW (ofQ (c.m i-bI c.m i)) (ofQ (q-c.s i)) (hx:=Vq.ofQ (h:=pr hc i)) (hy:=Vq.ofQ (h:=DE hc hy.hq i)) Y J;have hadd:=cJ (ofQ (am (dc c.s c.m q) i)) (ofQ ((c.m i-bI c.m i)*(q-c.s i))) (hx:=hsum i J) (hy:=Vq.ofQ (h:=@HQ.mul _ _ 27 (n+1+5) (pr hc i) (DE hc hy.hq i))) (by have:=Nat.mul_le_mul (show i<=40 by omega) (show n+1+32+1<=100034 by omega);omega) J;rw[show am (dc c.s c.m q) i+(c.m i-bI c.m i)*(q-c.s i)=am (dc c.s c.m q) (i+1) by rw[am,dc,if_neg hpos]]at hadd;exact we (s0:=s3.over [(4,.ptr 1004 1 0 0),(19,.clo 291 [.ptr 2002 1 0 0,.ptr 2003 1 0 0])] []) hmul hadd
 .intro i hi hor b4 bf s2 hf;have hres:am (dc c.s c.m q) i=fK c.S.length c.s c.m q:=rF hasc (fun k hk=>by rw[dc,if_pos hk]) hi hor;dsimp only at hf;rw[hres]at hf;rw[<-Fit.over (l:=[]) hf];exact bV
namespace Bd
variable {b:Bd}
def gr (b:Bd)(p:Nat->Nat)(i:Nat):Rat:=b.X i-b.Kc p/b.Kh p
theorem Ha {p:Nat->Nat}(hK:b.Kh p≠0)(t t':Rat)(i:Nat):b.y (b.ln p t') t' i=b.y (b.ln p t) t i+b.gr p i*(t'-t):=by
 rw[y,y,ln,ln,gr];grind
def Cross (b:Bd)(p:Nat->Nat)(t:Rat):Prop:=∃i,i<b.N/\∃k,k<b.n i/\b.y (b.ln p t) t i=b.S i k/\b.gr p i≠0
def det (b:Bd)(p:Nat->Nat):Rat:=b.Kh p*b.Kp p-b.Kc p*b.Kc p
def Tm (b:Bd)(t:Rat):Prop:=∃p:Nat->Nat,(∀i,i<b.N->p i<=b.n i)/\b.Kh p≠0/\(b.Cross p t\/(b.eln p t=0/\b.det p≠0))
theorem F8 {n:Nat}{S:Nat->Rat}{p:Nat}{y0 y1:Rat}(h:BU n S p y0):∃s:Rat,0<=s/\s<=1/\(∀s',0<=s'->s'<=s->BU n S p (y0+s'*(y1-y0)))/\(s=1\/∃k,k<n/\y0+s*(y1-y0)=S k/\y1≠y0):=by
 obtain⟨h1,h2,h3⟩:=h;by_cases hu:p<n/\S p<y1
 .have h4:=h3 hu.1;have hd:0<y1-y0:=aW;have hne:y1-y0≠0:=aW;have hs:(S p-y0)/(y1-y0)*(y1-y0)=S p-y0:=Rat.div_mul_cancel hne;refine⟨(S p-y0)/(y1-y0),?_,?_,fun s' g1 g2=>⟨h1,fun k hk=>?_,fun _=>?_⟩,.inr ⟨p,hu.1,aW,aW⟩⟩
  .rw[Rat.div_def];exact Rat.mul_nonneg aW (Rat.le_of_lt (Rat.inv_pos.2 hd))
  .by_cases hc:(S p-y0)/(y1-y0)<=1
   .exact hc
   .have:=Rat.mul_pos (show 0<(S p-y0)/(y1-y0)-1 by grind) hd;grind
  .have:=h2 k hk;have:=Rat.mul_nonneg g1 (Rat.le_of_lt hd);grind
  .have:=Rat.mul_nonneg (show 0<=(S p-y0)/(y1-y0)-s' by grind) (Rat.le_of_lt hd);grind
 .by_cases hl:∃k,p=k+1/\y1<S k
  .obtain⟨k,rfl,hk⟩:=hl;have h4:=h2 k O;have hd:0<y0-y1:=aW;have hne:y0-y1≠0:=aW;have hs:(y0-S k)/(y0-y1)*(y0-y1)=y0-S k:=Rat.div_mul_cancel hne;refine⟨(y0-S k)/(y0-y1),?_,?_,fun s' g1 g2=>⟨h1,fun k' hk'=>?_,fun hn=>?_⟩,.inr ⟨k,J,aW,aW⟩⟩
   .rw[Rat.div_def];exact Rat.mul_nonneg aW (Rat.le_of_lt (Rat.inv_pos.2 hd))
   .by_cases hc:(y0-S k)/(y0-y1)<=1
    .exact hc
    .have:=Rat.mul_pos (show 0<(y0-S k)/(y0-y1)-1 by grind) hd;grind
   .obtain rfl:k=k':=J;have:=Rat.mul_nonneg (show 0<=(y0-S k)/(y0-y1)-s' by grind) (Rat.le_of_lt hd);grind
   .have:=h3 hn;have:=Rat.mul_nonneg g1 (Rat.le_of_lt hd);grind
  .refine⟨1,Y,Rat.le_refl,fun s' g1 g2=>⟨h1,fun k hk=>?_,fun hn=>?_⟩,.inl O⟩
   .have h4:=h2 k hk;have h5:¬y1<S k:=fun hh=>hl ⟨k,hk,hh⟩;have h6:=Rat.mul_nonneg g1 (show 0<=y1-S k by grind);have h7:=Rat.mul_nonneg (show 0<=1-s' by grind) (show 0<=y0-S k by grind);grind
   .have h4:=h3 hn;have h5:¬S p<y1:=fun hh=>hu ⟨hn,hh⟩;have h6:=Rat.mul_nonneg g1 (show 0<=S p-y1 by grind);have h7:=Rat.mul_nonneg (show 0<=1-s' by grind) (show 0<=S p-y0 by grind);grind
theorem K4 {p:Nat->Nat}{t0:Rat}(hK:b.Kh p≠0)(h0:b.Inc p (b.ln p t0) t0)(t1:Rat) :
  ∃s:Rat,0<=s/\s<=1/\(∀s',0<=s'->s'<=s->b.Inc p (b.ln p (t0+s'*(t1-t0))) (t0+s'*(t1-t0)))/\(s=1\/b.Cross p (t0+s*(t1-t0))):=by
 have hy:∀s i,b.y (b.ln p (t0+s*(t1-t0))) (t0+s*(t1-t0)) i=b.y (b.ln p t0) t0 i+s*(b.y (b.ln p t1) t1 i-b.y (b.ln p t0) t0 i):=by
  intro s i;rw[Ha hK t0 (t0+s*(t1-t0)),Ha hK t0 t1];grind
 have key:∀m,m<=b.N->∃s:Rat,0<=s/\s<=1/\(∀s',0<=s'->s'<=s->∀i,i<m->BU (b.n i) (b.S i) (p i) (b.y (b.ln p (t0+s'*(t1-t0))) (t0+s'*(t1-t0)) i))/\(s=1\/b.Cross p (t0+s*(t1-t0))):=by
  intro m
  induction m with
  |zero=>exact fun _=>⟨1,Y,Rat.le_refl,fun _ _ _ i hi=>by omega,.inl rfl⟩
  |succ m ih =>
   intro hm;obtain⟨s,g1,g2,g3,g4⟩:=ih J;obtain⟨s2,k1,k2,k3,k4⟩:=F8 (y1:=b.y (b.ln p t1) t1 m) (h0 m J);by_cases hs:s<=s2
   .refine⟨s,g1,g2,fun s' q1 q2 i hi=>?_,g4⟩;by_cases he:i<m
    .exact g3 s' q1 q2 i he
    .obtain rfl:i=m:=J;rw[hy];exact k3 s' q1 aW
   .refine⟨s2,k1,k2,fun s' q1 q2 i hi=>?_,?_⟩
    .by_cases he:i<m
     .exact g3 s' q1 aW i he
     .obtain rfl:i=m:=J;rw[hy];exact k3 s' q1 q2
    .rcases k4 with k4|⟨k,q1,q2,q3⟩
     .exact .inl k4
     .refine .inr ⟨m,J,k,q1,by rw[hy];exact q2,fun hg=>?_⟩;have:=Ha hK t0 t1 m;rw[hg]at this;exact q3 aW
 exact key b.N (aP)
theorem oT {p:Nat->Nat}(hK:b.Kh p≠0)(t t':Rat):(b.eln p t'-b.eln p t)*b.Kh p=b.det p*(t'-t):=by
 rw[eln,eln,ln,ln,det];grind
theorem zI {p:Nat->Nat}(hK:0<b.Kh p){t0 t1:Rat}(h0:b.eln p t0<0)(h1:0<=b.eln p t1):∃s:Rat,0<s/\s<=1/\b.eln p (t0+s*(t1-t0))=0/\b.det p≠0:=by
 have hne:b.Kh p≠0:=aW;have hl:=oT hne t0 t1;have hd:0<b.eln p t1-b.eln p t0:=aW;have hd':b.eln p t1-b.eln p t0≠0:=aW;have hdet:b.det p≠0:=by
  intro h;rw[h]at hl;have:=Rat.mul_pos hd hK;grind
 have hs:(-b.eln p t0)/(b.eln p t1-b.eln p t0)*(b.eln p t1-b.eln p t0) = -b.eln p t0:=Rat.div_mul_cancel hd';generalize (-b.eln p t0)/(b.eln p t1-b.eln p t0)=s at *
 refine⟨s,?_,?_,?_,hdet⟩
 .by_cases hc:0<s
  .exact hc
  .have:=Rat.mul_nonneg (show 0 <= -s by grind) (Rat.le_of_lt hd);grind
 .by_cases hc:s<=1
  .exact hc
  .have:=Rat.mul_pos (show 0<s-1 by grind) hd;grind
 .have h2:=oT hne t0 (t0+s*(t1-t0));have h3:(b.eln p (t0+s*(t1-t0))-b.eln p t0-s*(b.eln p t1-b.eln p t0))*b.Kh p=0:=aW;rcases Rat.mul_eq_zero.1 h3 with h4|h4
  .grind
  .exact absurd h4 hne
theorem CP (h:b.Ok){lo hi zl zh:Rat}(hlt:lo<hi)(ll:b.Least zl lo)(lh:b.Least zh hi)(el:b.e zl lo<0)(eh:0<b.e zh hi)
  (sep:∀t t',b.Tm t->b.Tm t'->lo<=t->t<=hi->lo<=t'->t'<=hi->t=t') {p:Nat->Nat} (hp:b.Inl p zl lo) :
  ∃t,b.Bal (b.ln p t) t/\b.eln p t=0/\b.det p≠0:=by
 have hK:=ll.K h hp;have hne:b.Kh p≠0:=aW;have hzl:=ln_at h ll.1 hp.c hK;have hpc:=hp.c;rw[hzl]at hpc;have el':b.eln p lo<0:=by rw[<-Cy h hpc,<-hzl];exact el
 obtain⟨s,g1,g2,g3,g4⟩:=K4 hne hpc hi;have g5:=g3 s g1 Rat.le_refl;have hFb:∀t,b.Inc p (b.ln p t) t->b.eln p t=0->b.Bal (b.ln p t) t:=fun t h1 h2=>by
  refine⟨E5 h h1 hK,?_⟩;have:=Cy h h1;rw[h2,e]at this;grind
 have hple:∀i,i<b.N->p i<=b.n i:=fun i hi=>(hp i hi).1;by_cases hz:0<=b.eln p (lo+s*(hi-lo))
 .obtain⟨r,k1,k2,k3,k4⟩:=zI hK el' hz;refine⟨_,hFb _ ?_ k3,k3,k4⟩;rw[show lo+r*(lo+s*(hi-lo)-lo)=lo+r*s*(hi-lo) by grind];refine g3 _ (Rat.mul_nonneg aW g1) ?_;have:=Rat.mul_nonneg (show 0<=1-r by grind) g1;grind
 .exfalso;generalize ht1:lo+s*(hi-lo)=t1 at *
  have hin1:lo<=t1/\t1<=hi:=by
   have:=Rat.mul_nonneg g1 (show 0<=hi-lo by grind);have:=Rat.mul_nonneg (show 0<=1-s by grind) (show 0<=hi-lo by grind);grind
  have he1:b.e (b.ln p t1) t1<0:=by rw[Cy h g5];grind
  have hF1:=E5 h g5 hK;have hT1:b.Tm t1:=by
   rcases g4 with g4|g4
   .exfalso;have:t1=hi:=by rw[<-ht1,g4];grind
    rw[this]at he1 hF1;have:=Eb h (hF1.trans lh.1.symm);rw[e]at he1 eh;grind
   .exact⟨p,hple,hne,.inl g4⟩
  obtain⟨q,hq⟩:=yy h zh hi;have hKq:=lh.K h hq;have hneq:b.Kh q≠0:=aW;have hzh:=ln_at h lh.1 hq.c hKq;have hqc:=hq.c;rw[hzh]at hqc;have eh':0<b.eln q hi:=by rw[<-Cy h hqc,<-hzh];exact eh
  have hqle:∀i,i<b.N->q i<=b.n i:=fun i hi=>(hq i hi).1;obtain⟨r,k1,k2,k3,k4⟩:=K4 hneq hqc lo;generalize ht2:hi+r*(lo-hi)=t2 at *
  have hin2:lo<=t2/\t2<=hi:=by
   have:=Rat.mul_nonneg k1 (show 0<=hi-lo by grind);have:=Rat.mul_nonneg (show 0<=1-r by grind) (show 0<=hi-lo by grind);grind
  have hle:t2<=t1:=by
   rcases k4 with k4|k4
   .have:t2=lo:=by rw[<-ht2,k4];grind
    grind
   .have:=sep t1 t2 hT1 ⟨q,hqle,hneq,.inl k4⟩ hin1.1 hin1.2 hin2.1 hin2.2;grind
  have hw:0<hi-lo:=aW;have hwn:hi-lo≠0:=aW;have hs':(hi-t1)/(hi-lo)*(hi-lo)=hi-t1:=Rat.div_mul_cancel hwn;have hq1:b.Inc q (b.ln q t1) t1:=by
   have:=k3 ((hi-t1)/(hi-lo)) ?_ ?_
   .rwa [show hi+(hi-t1)/(hi-lo)*(lo-hi)=t1 by grind]at this
   .rw[Rat.div_def];exact Rat.mul_nonneg aW (Rat.le_of_lt (Rat.inv_pos.2 hw))
   .by_cases hc:(hi-t1)/(hi-lo)<=r
    .exact hc
    .have:=Rat.mul_pos (show 0<(hi-t1)/(hi-lo)-r by grind) hw;grind
  have hF2:=E5 h hq1 hKq;have heq:b.eln q t1<0:=by
   rw[<-Cy h hq1];have:=Eb h (hF1.trans hF2.symm);rw[e]at he1 ⊢;grind
  obtain⟨u,q1,q2,q3,q4⟩:=zI hKq heq (Rat.le_of_lt eh');have hT3:b.Tm (t1+u*(hi-t1)):=⟨q,hqle,hneq,.inr ⟨q3,q4⟩⟩;have hth:t1<hi:=by
   by_cases hc:t1=hi
   .rw[hc]at heq;grind
   .grind
  have hu:=Rat.mul_pos q1 (show 0<hi-t1 by grind);have hu2:=Rat.mul_nonneg (show 0<=1-u by grind) (show 0<=hi-t1 by grind);have:=sep t1 _ hT1 hT3 hin1.1 hin1.2 aW aW;grind
end Bd
namespace Bd
variable {b:Bd}
def lim (b:Bd)(i:Nat):Prop:=bI (b.M i) (b.n i)=0
def cap (b:Bd)(i:Nat):Rat:=qk (b.n i) (b.S i) (b.M i)
theorem oF (x z:Rat):∃u:Rat,0<=u/\x<=u/\z<=u:=⟨eF x+eF z,by simp only[eF];grind,by simp only[eF];grind,by simp only[eF];grind⟩
theorem jS {g c B:Rat}(hg:0<g):∃u0:Rat,∀u,u0<=u->B<=c+g*u:=by
 refine⟨(B-c)/g,fun u hu=>?_⟩;have h1:(B-c)/g*g=B-c:=Rat.div_mul_cancel aW;have:=Rat.mul_nonneg (show 0<=u-(B-c)/g by grind) (Rat.le_of_lt hg);grind
theorem Ld (h:b.Ok){s z t:Rat}(hs:s=1\/s = -1)(hl:b.Least z t)(he:s*b.e z t<0)(hT:∀t',b.Tm t'->0<s*(t-t')) :
  ∃i0,i0<b.N/\(∀i,i<b.N->0<s*(b.X i-b.X i0)->b.lim i)/\am (fun i=>if 0<s*(b.X i-b.X i0) then b.cap i*(s*(b.X i-b.X i0)) else 0) b.N<b.w*(s*(b.A-b.X i0)):=by
 obtain⟨p,hp⟩:=yy h z t;have hK:=hl.K h hp;have hne:b.Kh p≠0:=aW;have hz:=ln_at h hl.1 hp.c hK;have hpc:=hp.c;rw[hz]at hpc;have hple:∀i,i<b.N->p i<=b.n i:=fun i hi=>(hp i hi).1;have hss:s*s=1:=by rcases hs with rfl|rfl<;>grind
 have hall:∀u:Rat,0<=u->b.Inc p (b.ln p (t+s*u)) (t+s*u):=by
  intro u hu;obtain⟨r,g1,g2,g3,g4⟩:=K4 hne hpc (t+s*u);rcases g4 with rfl|g4
  .have:=g3 1 Y Rat.le_refl;rwa [show t+1*(t+s*u-t)=t+s*u by grind]at this
  .have:=hT _ ⟨p,hple,hne,.inl g4⟩;have h2:=Rat.mul_nonneg g1 hu;exfalso;have:s*(t-(t+r*(t+s*u-t))) = -(r*u)*(s*s):=aW;rw[hss]at this;grind
 have hyu:∀(u:Rat) i,b.y (b.ln p (t+s*u)) (t+s*u) i=b.y (b.ln p t) t i+(s*b.gr p i)*u:=fun u i=>by rw[Ha hne t];grind
 have hfle:∀(u:Rat) i,0<=u->i<b.N->b.k p i*(b.y (b.ln p t) t i+(s*b.gr p i)*u)-b.o p i<=b.w:=by
  intro u i hu hi;have h1:=hall u hu;rw[<-hyu,<-f_at h h1 hi,<-E5 h h1 hK];exact mn (f:=b.f (b.ln p (t+s*u)) (t+s*u)) (fun k hk=>f_nn h hk) hi
 have hup:∀i,i<b.N->0<s*b.gr p i->p i=b.n i/\b.k p i=0:=by
  intro i hi hg;have hk0:b.k p i=0:=by
   rcases Classical.em (0<b.k p i) with hk|hk
   .exfalso;obtain⟨u0,hu0⟩:=jS (g:=b.k p i*(s*b.gr p i)) (c:=b.k p i*b.y (b.ln p t) t i-b.o p i) (B:=b.w+1) (Rat.mul_pos hk hg);obtain⟨u,h1,h2,_⟩:=oF u0 0;have:=hu0 u h2;have:=hfle u i h1 hi;grind
   .have:=Ir h hpc hi;grind
  refine⟨?_,hk0⟩;rcases Nat.lt_or_ge (p i) (b.n i) with hlt|hge
  .exfalso;obtain⟨u0,hu0⟩:=jS (g:=s*b.gr p i) (c:=b.y (b.ln p t) t i) (B:=b.S i (p i)+1) hg;obtain⟨u,h1,h2,_⟩:=oF u0 0;have h3:=hu0 u h2;have h4:=((hall u h1) i hi).2.2 hlt;rw[hyu]at h4;grind
  .have:=hple i hi;omega
 have hdown:∀i,i<b.N->s*b.gr p i<0->p i=0:=by
  intro i hi hg;cases hpi:p i with
  |zero=>rfl
  |succ k =>
   exfalso;obtain⟨u0,hu0⟩:=jS (g := -(s*b.gr p i)) (c := -(b.y (b.ln p t) t i)) (B := -(b.S i k)+1) aW;obtain⟨u,h1,h2,_⟩:=oF u0 0;have h3:=hu0 u h2;have h4:=((hall u h1) i hi).2.1 k hpi;rw[hyu]at h4;grind
 obtain⟨i0,hi0,hk0⟩:=EC hK fun i hi=>Ir h hpc hi;have hg0:b.gr p i0=0:=by
  rcases Classical.em (0<s*b.gr p i0) with hc|hc
  .have:=(hup i0 hi0 hc).2;grind
  .rcases Classical.em (s*b.gr p i0<0) with hd|hd
   .have:=hdown i0 hi0 hd;rw[k,this,bI]at hk0;grind
   .have h1:s*b.gr p i0=0:=aW;have:s*s*b.gr p i0=0:=by rw[Rat.mul_assoc,h1,Rat.mul_zero]
    rw[hss]at this;grind
 have hX:∀i,b.gr p i=b.X i-b.X i0:=fun i=>by
  have:=hg0;rw[gr]at this ⊢;grind
 refine⟨i0,hi0,fun i hi hc=>?_,?_⟩
 .rw[<-hX]at hc;obtain⟨h1,h2⟩:=hup i hi hc;rw[lim,<-h1];exact h2
 .have hsum:am (fun i=>if 0<s*(b.X i-b.X i0) then b.cap i*(s*(b.X i-b.X i0)) else 0) b.N=s*(b.G0 z t-b.w*b.X i0):=by
   have h1:∀i,i<b.N->(if 0<s*(b.X i-b.X i0) then b.cap i*(s*(b.X i-b.X i0)) else 0)=(b.f z t i*b.X i-b.f z t i*b.X i0)*s:=by
    intro i hi;rcases Classical.em (0<s*(b.X i-b.X i0)) with hc|hc
    .rw[if_pos hc];rw[<-hX]at hc;obtain⟨g1,g2⟩:=hup i hi hc;have h2:=hp.c i hi;rw[g1]at h2;have h3:=qe (h.crv i hi) h2 (by rw[<-g1];exact g2);rw[cap,<-h3,f];grind
    .rw[if_neg hc];rcases Classical.em (s*(b.X i-b.X i0)<0) with hd|hd
     .rw[<-hX]at hd;have h2:=hp.c i hi;rw[hdown i hi hd]at h2;have h3:=Bz (h.crv i hi) h2;rw[f,h3];grind
     .have h2:s*(b.X i-b.X i0)=0:=aW;have:(b.f z t i*b.X i-b.f z t i*b.X i0)*s=b.f z t i*(s*(b.X i-b.X i0)):=aW;rw[this,h2];grind
   rw[cy h1,jG];have h2:am (fun i=>b.f z t i*b.X i-b.f z t i*b.X i0) b.N=b.G0 z t-b.F z t*b.X i0:=by
    have:=pU (f:=fun i=>b.f z t i*b.X i) (g:=fun i=>b.f z t i*(-b.X i0)) (n:=b.N);rw[jG (f:=b.f z t)]at this;rw[G0,F];have h3:am (fun i=>b.f z t i*b.X i-b.f z t i*b.X i0) b.N=am (fun i=>b.f z t i*b.X i+b.f z t i*(-b.X i0)) b.N:=cy fun i _=>by grind
    rw[h3,this];grind
   rw[h2,hl.1];grind
  rw[hsum];rw[e]at he;grind
end Bd
def InR (n:Nat)(S:Nat->Rat)(p:Nat)(y:Rat):Prop:=p<=n/\(∀k,p=k+1->S k<=y)/\(p<n->y<S p)
section
variable {n:Nat}{S M:Nat->Rat}{y:Rat}{p:Nat}
theorem InR.c (h:InR n S p y):BU n S p y:=⟨h.1,h.2.1,fun hp=>by have:=h.2.2 hp;grind⟩
theorem InR.some (h:Crv n S M)(y:Rat):∀(m:Nat),m<=n->∃p,p<=m/\(∀k,p=k+1->S k<=y)/\(p<m->y<S p)
 |0,_=>⟨0,aP,fun k hk=>by omega,fun hk=>by omega⟩
 |m+1,hm=>by
  by_cases hy:S m<=y
  .exact⟨m+1,aP,fun k hk=>by
    have:k=m:=J
    subst this;exact hy,fun hk=>by omega⟩
  .obtain⟨p,h1,h2,h3⟩:=InR.some h y m J;refine⟨p,J,h2,fun _=>?_⟩;by_cases hp:p<m
   .exact h3 hp
   .have:p=m:=J;subst this;grind
theorem InR.get (h:Crv n S M)(y:Rat):∃p,InR n S p y:=InR.some h y n (aP)
end
namespace Bd
variable {b:Bd}
theorem exclude (h:b.Ok){z t A B:Rat}(hb:b.Bal z t)(hl:∀i,i<b.N->0<A+B*b.X i->b.lim i):b.w*(A+B*b.A)<=am (fun i=>if 0<A+B*b.X i then b.cap i*(A+B*b.X i) else 0) b.N:=by
 have h1:b.w*(A+B*b.A)=am (fun i=>b.f z t i*(A+B*b.X i)) b.N:=by
  have h2:=pU (f:=fun i=>b.f z t i*A) (g:=fun i=>b.f z t i*b.X i*B) (n:=b.N);rw[jG (f:=b.f z t),jG (f:=fun i=>b.f z t i*b.X i)]at h2;have h3:am (fun i=>b.f z t i*(A+B*b.X i)) b.N=am (fun i=>b.f z t i*A+b.f z t i*b.X i*B) b.N:=cy fun i _=>by grind
  rw[h3,h2];have e1:am (b.f z t) b.N=b.w:=hb.1;have e2:am (fun i=>b.f z t i*b.X i) b.N=b.w*b.A:=hb.2;rw[e1,e2];grind
 rw[h1];refine oo fun i hi=>?_;have hnn:=f_nn h (z:=z) (t:=t) hi;split
 .rename_i hv;have hc:=h.crv i hi;have hle:b.f z t i<=b.cap i:=by
   obtain⟨q,hq⟩:∃q,b.y z t i<=q/\BU (b.n i) (b.S i) (b.n i) q:=by
    cases hn:b.n i with
    |zero=>exact⟨b.y z t i,Rat.le_refl,⟨aP,fun k hk=>by omega,fun hk=>by omega⟩⟩
    |succ k=>exact⟨b.y z t i+eF (b.S i k-b.y z t i),by simp only[eF];grind,⟨aP,fun k' hk'=>by
      obtain rfl:k=k':=J
      simp only[eF];grind,fun hk=>by omega⟩⟩
   have:=iB hc hq.1;rw[qe hc hq.2 (hl i hi hv)]at this;exact this
  have:=Rat.mul_nonneg (show 0<=b.cap i-b.f z t i by grind) (Rat.le_of_lt hv);grind
 .rename_i hv;have:=Rat.mul_nonneg hnn (show 0 <= -(A+B*b.X i) by grind);grind
end Bd
theorem yK (q:Rat):q*(q.den:Rat)=q.num:=by
 have hne:((q.den:Int):Rat)≠0:=fun e=>cO q (Rat.intCast_inj.1 (by simpa using e));have h:=ga q;have h2:((q.num:Rat)/((q.den:Int):Rat))*((q.den:Int):Rat)=q.num:=Rat.div_mul_cancel hne;rw[<-h,Rat.intCast_natCast]at h2;exact h2
theorem CU {p q:Rat}{m:Nat}(hp:hq p m)(hq':hq q m)(hne:p<q):1<=(q-p)*((65536^(m+m+1):Nat):Rat):=by
 have h:=(@HQ.sub q p m m ⟨hq'⟩ ⟨hp⟩).ok;generalize hd:q-p=d at *
 have h0:0<d:=aW;have hnum:1<=d.num:=by
  have h1:=Rat.num_nonneg.2 (Rat.le_of_lt h0);have h2:d.num≠0:=fun e=>by have:=Rat.num_eq_zero.1 e;grind
  omega
 have hdd:=yK d;have h1:(1:Rat)<=d.num:=by exact_mod_cast hnum
 have h2:(d.den:Rat)<=((65536^(m+m+1):Nat):Rat):=by exact_mod_cast Nat.le_of_lt h.2
 have h3:=Rat.mul_le_mul_of_nonneg_left h2 (Rat.le_of_lt h0);grind
theorem CT {q:Rat}{m:Nat}(h:hq q m):q<((65536^m:Nat):Rat) /\ -((65536^m:Nat):Rat)<q:=by
 have hdd:=yK q;have hd1:(1:Rat)<=(q.den:Rat):=by exact_mod_cast q.den_pos
 have hab:=h.1;generalize 65536^m=V at *
 have hn:q.num<(V:Int) /\ -(V:Int)<q.num:=J;have hn1:(q.num:Rat)<((V:Nat):Rat):=by
  have:=Rat.intCast_lt_intCast.2 hn.1;rwa [Rat.intCast_natCast]at this
 have hn2 : -((V:Nat):Rat)<(q.num:Rat):=by
  have:=Rat.intCast_lt_intCast.2 hn.2;rwa [Rat.intCast_neg,Rat.intCast_natCast]at this
 have hW:(0:Rat)<=((V:Nat):Rat):=by exact_mod_cast Nat.zero_le _
 generalize ((V:Nat):Rat)=W at *
 generalize (q.den:Rat)=D0 at *
 constructor
 .rcases Classical.em (q<W) with hc|hc
  .exact hc
  .have:=Rat.mul_nonneg (show 0<=q-W by grind) (show 0<=D0 by grind);have:=Rat.mul_nonneg hW (show 0<=D0-1 by grind);grind
 .rcases Classical.em (-W<q) with hc|hc
  .exact hc
  .have:=Rat.mul_nonneg (show 0 <= -W-q by grind) (show 0<=D0 by grind);have:=Rat.mul_nonneg hW (show 0<=D0-1 by grind);grind
namespace Bd
structure Sz (b:Bd):Prop where
 N:b.N<=10
 n:∀i,i<b.N->b.n i<=5
 X:∀i,i<b.N->hq (b.X i) 4
 C:∀i,i<b.N->hq (b.C i) 9
 S:∀i,i<b.N->∀k,k<b.n i->hq (b.S i k) 4
 M:∀i,i<b.N->∀k,k<b.n i->hq (b.M i k) 4
 w:hq b.w 4
 A:hq b.A 8
variable {b:Bd}
theorem Sz.k (h:b.Sz){p:Nat->Nat}(hp:∀i,i<b.N->p i<=b.n i){i:Nat}(hi:i<b.N):HQ (b.k p i) 4:=by
 rw[Bd.k];have h1:=hp i hi;cases hpi:p i with
 |zero=>rw[bI];exact HQ.zero
 |succ m=>exact⟨h.M i hi m J⟩
theorem Sz.bef (h:b.Sz){i:Nat}(hi:i<b.N){k:Nat}(hk:k<b.n i):HQ (bI (b.M i) k) 4:=by
 cases k with
 |zero=>rw[bI];exact HQ.zero
 |succ m=>exact⟨h.M i hi m J⟩
theorem Sz.o (h:b.Sz){p:Nat->Nat}(hp:∀i,i<b.N->p i<=b.n i){i:Nat}(hi:i<b.N):HQ (b.o p i) 74:=by
 rw[Bd.o,ke];have h1:=hp i hi;have h2:=h.n i hi;refine(bw (m:=13) (p i) fun k hk=>?_).mono J;have:=h.bef hi (k:=k) J;have:HQ (b.M i k) 4:=⟨h.M i hi k J⟩;have:HQ (b.S i k) 4:=⟨h.S i hi k J⟩;show HQ ((b.M i k-bI (b.M i) k)*b.S i k) 13;exact inferInstanceAs (HQ ((b.M i k-bI (b.M i) k)*b.S i k) (4+4+1+4))
theorem Sz.Kh (h:b.Sz){p:Nat->Nat}(hp:∀i,i<b.N->p i<=b.n i):HQ (b.Kh p) 54:=by
 have:=h.N;exact(bw (m:=4) b.N fun i hi=>h.k hp hi).mono J
theorem Sz.Kc (h:b.Sz){p:Nat->Nat}(hp:∀i,i<b.N->p i<=b.n i):HQ (b.Kc p) 94:=by
 have:=h.N;refine(bw (m:=8) b.N fun i hi=>?_).mono J;have:=h.k hp hi;have:HQ (b.X i) 4:=⟨h.X i hi⟩;exact inferInstanceAs (HQ (b.k p i*b.X i) (4+4))
theorem Sz.Kp (h:b.Sz){p:Nat->Nat}(hp:∀i,i<b.N->p i<=b.n i):HQ (b.Kp p) 134:=by
 have:=h.N;refine(bw (m:=12) b.N fun i hi=>?_).mono J;have:=h.k hp hi;have:HQ (b.X i) 4:=⟨h.X i hi⟩;exact inferInstanceAs (HQ (b.k p i*b.X i*b.X i) (4+4+4))
theorem Sz.Fo (h:b.Sz){p:Nat->Nat}(hp:∀i,i<b.N->p i<=b.n i):HQ (b.Fo p) 894:=by
 have:=h.N;refine(bw (m:=88) b.N fun i hi=>?_).mono J;have:=h.k hp hi;have:=h.o hp hi;have:HQ (b.C i) 9:=⟨h.C i hi⟩;exact inferInstanceAs (HQ (b.k p i*b.C i-b.o p i) (4+9+74+1))
theorem Sz.Go (h:b.Sz){p:Nat->Nat}(hp:∀i,i<b.N->p i<=b.n i):HQ (b.Go p) 934:=by
 have:=h.N;refine(bw (m:=92) b.N fun i hi=>?_).mono J;have:=h.k hp hi;have:=h.o hp hi;have:HQ (b.C i) 9:=⟨h.C i hi⟩;have:HQ (b.X i) 4:=⟨h.X i hi⟩;exact inferInstanceAs (HQ ((b.k p i*b.C i-b.o p i)*b.X i) (4+9+74+1+4))
theorem Sz.Tm (h:b.Sz){t:Rat}(ht:b.Tm t):hq t 3000:=by
 obtain⟨p,hp,hK,ht⟩:=ht;have h1:=h.Kh hp;have h2:=h.Kc hp;have h3:=h.Kp hp;have h4:=h.Fo hp;have h5:=h.Go hp;have hw:HQ b.w 4:=⟨h.w⟩;have hA:HQ b.A 8:=⟨h.A⟩;rcases ht with⟨i,hi,k,hk,g1,g2⟩|⟨g1,g2⟩
 .have hX:HQ (b.X i) 4:=⟨h.X i hi⟩;have hC:HQ (b.C i) 9:=⟨h.C i hi⟩;have hS:HQ (b.S i k) 4:=⟨h.S i hi k hk⟩;have:t=(b.S i k-b.C i-(b.w-b.Fo p)/b.Kh p)/(b.X i-b.Kc p/b.Kh p):=by
   rw[Bd.y,Bd.ln]at g1;rw[Bd.gr]at g2;grind
  rw[this];have e:HQ ((b.S i k-b.C i-(b.w-b.Fo p)/b.Kh p)/(b.X i-b.Kc p/b.Kh p)) _:=inferInstance;exact dl e.ok Y
 .have:t=(b.w*b.A-b.Go p-b.Kc p*((b.w-b.Fo p)/b.Kh p))/((b.Kh p*b.Kp p-b.Kc p*b.Kc p)/b.Kh p):=by
   rw[Bd.eln,Bd.ln]at g1;rw[Bd.det]at g2;grind
  rw[this];have e:HQ ((b.w*b.A-b.Go p-b.Kc p*((b.w-b.Fo p)/b.Kh p))/((b.Kh p*b.Kp p-b.Kc p*b.Kc p)/b.Kh p)) _:=inferInstance;exact dl e.ok Y
def SzT (b:Bd):Prop:=∀t,b.Tm t->hq t 3000
theorem Sz.T (h:b.Sz):b.SzT:=fun _ ht=>h.Tm ht
end Bd
def ry (S:Nat->Rat)(y:Rat):Nat->Nat
 |0=>0
 |m+1=>if S m<y then m+1 else ry S y m
def nF (S:Nat->Rat)(y:Rat):Nat->Nat
 |0=>0
 |m+1=>if S m<=y then m+1 else nF S y m
theorem u6 {S:Nat->Rat}{y:Rat}:∀m,ry S y m<=m/\(∀k,ry S y m=k+1->S k<y)/\(ry S y m<m->y<=S (ry S y m))
 |0=>⟨aP,fun k hk=>by simp[ry]at hk,fun h=>by simp[ry]at h⟩
 |m+1=>by
  obtain⟨h1,h2,h3⟩:=u6 (S:=S) (y:=y) m;rw[ry];split
  .rename_i hy;exact⟨aP,fun k hk=>by
    have:k=m:=J
    subst this;exact hy,fun h=>by omega⟩
  .rename_i hy;refine⟨J,h2,fun _=>?_⟩;by_cases hp:ry S y m<m
   .exact h3 hp
   .rw[show ry S y m=m by omega];grind
theorem u_ {S:Nat->Rat}{y:Rat}:∀m,nF S y m<=m/\(∀k,nF S y m=k+1->S k<=y)/\(nF S y m<m->y<S (nF S y m))
 |0=>⟨aP,fun k hk=>by simp[nF]at hk,fun h=>by simp[nF]at h⟩
 |m+1=>by
  obtain⟨h1,h2,h3⟩:=u_ (S:=S) (y:=y) m;rw[nF];split
  .rename_i hy;exact⟨aP,fun k hk=>by
    have:k=m:=J
    subst this;exact hy,fun h=>by omega⟩
  .rename_i hy;refine⟨J,h2,fun _=>?_⟩;by_cases hp:nF S y m<m
   .exact h3 hp
   .rw[show nF S y m=m by omega];grind
theorem w_ {n:Nat}{S:Nat->Rat}{y:Rat}:InL n S (ry S y n) y:=u6 n
theorem IC {n:Nat}{S:Nat->Rat}{y:Rat}:InR n S (nF S y n) y:=u_ n
theorem InL.uniq {n:Nat}{S M:Nat->Rat}(h:Crv n S M){p q:Nat}{y:Rat}(h1:InL n S p y)(h2:InL n S q y):p=q:=by
 have key:∀ {p q:Nat},InL n S p y->InL n S q y->p<q->False:=by
  intro p q h1 h2 hlt;obtain⟨k,rfl⟩:∃k,q=k+1:=⟨q-1,J⟩;have g1:=h2.2.1 k O;have g2:=h1.2.2 (by have:=h2.1;omega);have:=h.mono_st (i:=p) (j:=k) J (by have:=h2.1;omega);grind
 rcases Nat.lt_trichotomy p q with g|g|g
 .exact(key h1 h2 g).elim
 .exact g
 .exact(key h2 h1 g).elim
theorem InR.uniq {n:Nat}{S M:Nat->Rat}(h:Crv n S M){p q:Nat}{y:Rat}(h1:InR n S p y)(h2:InR n S q y):p=q:=by
 have key:∀ {p q:Nat},InR n S p y->InR n S q y->p<q->False:=by
  intro p q h1 h2 hlt;obtain⟨k,rfl⟩:∃k,q=k+1:=⟨q-1,J⟩;have g1:=h2.2.1 k O;have g2:=h1.2.2 (by have:=h2.1;omega);have:=h.mono_st (i:=p) (j:=k) J (by have:=h2.1;omega);grind
 rcases Nat.lt_trichotomy p q with g|g|g
 .exact(key h1 h2 g).elim
 .exact g
 .exact(key h2 h1 g).elim
namespace Bd
def pL (b:Bd)(z t:Rat)(i:Nat):Nat:=ry (b.S i) (b.y z t i) (b.n i)
def pR (b:Bd)(z t:Rat)(i:Nat):Nat:=nF (b.S i) (b.y z t i) (b.n i)
def newt (kh kc kp fo mo:Rat):Option (Rat × Rat):=if kh*kp-kc*kc=0 then none else some ((kp*fo-kc*mo)/(kh*kp-kc*kc),(kh*mo-kc*fo)/(kh*kp-kc*kc))
def tryP (b:Bd)(z t:Rat)(p:Nat->Nat):Option (Rat × Rat):=match newt (b.Kh p) (b.Kc p) (b.Kp p) (b.w-b.F z t) (-(b.e z t)) with
 |none=>none
 |some d=>if b.F (z+d.1) (t+d.2)=b.w/\b.G0 (z+d.1) (t+d.2)=b.w*b.A then some (z+d.1,t+d.2) else none
def guess (b:Bd)(z t:Rat):Option (Rat × Rat):=match b.tryP z t (b.pR z t) with
 |some x=>some x
 |none=>b.tryP z t (b.pL z t)
noncomputable def sg (b:Bd)(t:Rat):Rat:=Classical.epsilon fun z=>b.Least z t
noncomputable def E (b:Bd)(t:Rat):Rat:=b.e (b.sg t) t
open Classical in
noncomputable def dbl (b:Bd)(s:Rat):Nat->Rat->Option Rat
 |0,_=>none
 |n+1,w=>if s*b.E (s*w)<0 then dbl b s n (w+w) else some w
noncomputable def at1 (b:Bd)(t:Rat):Option (Rat × Rat):=if b.E t=0 then some (b.sg t,t) else b.guess (b.sg t) t
noncomputable def bis (b:Bd):Nat->Rat->Rat->Option (Rat × Rat)
 |0,_,_=>none
 |n+1,lo,hi=>match b.at1 ((lo+hi)/2) with
  |some x=>some x
  |none=>if b.E ((lo+hi)/2)<0 then bis b n ((lo+hi)/2) hi else bis b n lo ((lo+hi)/2)
noncomputable def fst3 (b:Bd)(lo hi:Rat):Option (Rat × Rat):=match b.at1 0 with
 |some x=>some x
 |none=>match b.at1 lo with
  |some x=>some x
  |none=>b.at1 hi
variable {b:Bd}
theorem iA {t:Rat}(h:∃z,b.Least z t):b.Least (b.sg t) t:=Classical.epsilon_spec h
theorem sg_eq {z t:Rat}(h:b.Least z t):b.sg t=z:=Least.uniq (iA ⟨z,h⟩) h
theorem vZ {z t:Rat}{p:Nat->Nat}{x:Rat × Rat}(h:b.tryP z t p=some x):b.Bal x.1 x.2:=by
 unfold tryP at h;split at h
 .cases h
 .split at h
  .cases h;assumption
  .cases h
theorem Ai {z t:Rat}{x:Rat × Rat}(h:b.guess z t=some x):b.Bal x.1 x.2:=by
 unfold guess at h;split at h
 .rename_i hx;cases h;exact vZ hx
 .exact vZ h
theorem nW {t:Rat}(hl:∃z,b.Least z t){x:Rat × Rat}(h:b.at1 t=some x):b.Bal x.1 x.2:=by
 unfold at1 at h;split at h
 .rename_i he;cases h;refine⟨(iA hl).1,?_⟩;rw[E,e]at he;show b.G0 (b.sg t) t=_;grind
 .exact Ai h
theorem wS (h:b.Ok){lo hi:Rat}(hl:∀t,∃z,b.Least z t)(hlt:lo<hi)(el:b.E lo<0)(eh:0<b.E hi)
  (sep:∀t t',b.Tm t->b.Tm t'->lo<=t->t<=hi->lo<=t'->t'<=hi->t=t'):b.guess (b.sg lo) lo≠none:=by
 have ll:=iA (hl lo);have hp:b.Inl (b.pL (b.sg lo) lo) (b.sg lo) lo:=fun i _=>w_;obtain⟨t,h1,h2,h3⟩:=CP h hlt ll (iA (hl hi)) el eh sep hp;have el2:b.e (b.sg lo) lo=b.E lo:=O;rw[guess];generalize hzd:b.sg lo=z0 at *
 generalize hpd:b.pL z0 lo=p at *
 have hK:=ll.K h hp;have hne:b.Kh p≠0:=aW;have hz:=ln_at h ll.1 hp.c hK;have he:b.e z0 lo=b.eln p lo:=by
  have:=hp.c;rw[e,G_at h this,eln,<-hz]
 have htry:b.tryP z0 lo p=some (b.ln p t,t):=by
  have hel:=oT hne lo t;rw[h2]at hel;rw[det]at h3 hel;rw[tryP,newt,if_neg h3];dsimp only;have e2:lo+(b.Kh p * -(b.e z0 lo)-b.Kc p*(b.w-b.F z0 lo))/(b.Kh p*b.Kp p-b.Kc p*b.Kc p)=t:=by
   rw[ll.1,he];grind
  have e1:z0+(b.Kp p*(b.w-b.F z0 lo)-b.Kc p * -(b.e z0 lo))/(b.Kh p*b.Kp p-b.Kc p*b.Kc p)=b.ln p t:=by
   have e3:b.ln p t=z0-b.Kc p/b.Kh p*(t-lo):=by
    rw[hz,ln,ln];grind
   rw[e3,ll.1,he];grind
  rw[e1,e2];exact if_pos h1
 rw[htry];intro hn;split at hn<;>cases hn
theorem oH (h:b.Ok)(hsz:b.SzT)(hl:∀t,∃z,b.Least z t){W:Rat}(hW:W=((65536^(3000+3000+1):Nat):Rat)):∀(n:Nat) (lo hi:Rat),lo<hi->b.E lo<0->0<b.E hi->b.guess (b.sg lo) lo=none->(hi-lo)*W<((2^n:Nat):Rat)->∃x,b.bis n lo hi=some x/\b.Bal x.1 x.2
 |0,lo,hi,hlt,el,eh,hg,hd=>by
  exfalso;have hd1:(hi-lo)*W<1:=by
   rw[Nat.pow_zero]at hd;exact hd
  have hW0:(0:Rat)<=W:=by rw[hW];exact_mod_cast Nat.zero_le _
  refine wS h hl hlt el eh (fun t t' ht ht' g1 g2 g3 g4=>?_) hg;have k1:=hsz _ ht;have k2:=hsz _ ht';have one:∀ {u v:Rat},hq u 3000->hq v 3000->u<v->v-u<=hi-lo->False:=by
   intro u v hu hv huv hle;have h1:=CU hu hv huv;rw[<-hW]at h1;have h2:=Rat.mul_nonneg (show 0<=(hi-lo)-(v-u) by grind) hW0;grind
  rcases Classical.em (t<t') with hc|hc
  .exact(one k1 k2 hc aW).elim
  .rcases Classical.em (t'<t) with hc'|hc'
   .exact(one k2 k1 hc' aW).elim
   .grind
 |n+1,lo,hi,hlt,el,eh,hg,hd=>by
  have hpow:((2^(n+1):Nat):Rat)=2*((2^n:Nat):Rat):=by
   rw[Nat.pow_succ,Rat.natCast_mul];grind
  rw[hpow]at hd;rw[bis];cases h1:b.at1 ((lo+hi)/2) with
  |some x=>exact⟨x,rfl,nW (hl _) h1⟩
  |none =>
   dsimp only;have h2:b.E ((lo+hi)/2)≠0/\b.guess (b.sg ((lo+hi)/2)) ((lo+hi)/2)=none:=by
    unfold at1 at h1;split at h1
    .cases h1
    .exact⟨‹_›,h1⟩
   split
   .rename_i hE;exact oH h hsz hl hW n _ hi aW hE eh h2.2 aW
   .rename_i hE;exact oH h hsz hl hW n lo _ aW el aW hg aW
def NoTip (b:Bd):Prop:=∀s:Rat,s=1\/s = -1->∀i0,i0<b.N->(∀i,i<b.N->0<s*(b.X i-b.X i0)->b.lim i)->¬am (fun i=>if 0<s*(b.X i-b.X i0) then b.cap i*(s*(b.X i-b.X i0)) else 0) b.N<b.w*(s*(b.A-b.X i0))
theorem tY (h:b.Ok)(hsz:b.SzT)(hl:∀t,∃z,b.Least z t)(hn:b.NoTip){s:Rat}(hs:s=1\/s = -1){K:Nat}(hK:65536^3000=2^K) :
  ∀(j k:Nat),K<=j+k->k<=K->∃m,m<=K/\b.dbl s (j+1) ((2^k:Nat):Rat)=some ((2^m:Nat):Rat)/\0<=s*b.E (s*((2^m:Nat):Rat)):=by
 intro j
 induction j with
 |zero =>
  intro k h1 h2;obtain rfl:k=K:=J;have hE:¬s*b.E (s*((2^k:Nat):Rat))<0:=by
   intro hlt;obtain⟨i0,g1,g2,g3⟩:=Ld h hs (iA (hl _)) hlt fun t' ht'=>by
    have:=CT (hsz _ ht');rw[hK]at this;rcases hs with rfl|rfl<;>grind
   exact hn s hs i0 g1 g2 g3
  refine⟨k,aP,?_,aW⟩;rw[dbl,if_neg hE]
 |succ j ih =>
  intro k h1 h2;rw[dbl];split
  .rename_i hlt;by_cases hk:k=K
   .subst hk;exfalso;obtain⟨i0,g1,g2,g3⟩:=Ld h hs (iA (hl _)) hlt fun t' ht'=>by
     have:=CT (hsz _ ht');rw[hK]at this;rcases hs with rfl|rfl<;>grind
    exact hn s hs i0 g1 g2 g3
   .have hp:((2^k:Nat):Rat)+((2^k:Nat):Rat)=((2^(k+1):Nat):Rat):=by rw[Nat.pow_succ,Rat.natCast_mul];grind
    rw[hp];exact ih (k+1) J J
  .exact⟨k,h2,O,aW⟩
noncomputable def eqQ (b:Bd)(n:Nat):Option (Rat × Rat):=match b.dbl (-1) n 1,b.dbl 1 n 1 with
 |some wl,some wh=>(match b.fst3 (-wl) wh with
  |some x=>some x
  |none=>b.bis n (-wl) wh)
 |_,_=>none
theorem eq_some (h:b.Ok)(hsz:b.SzT)(hl:∀t,∃z,b.Least z t)(hn:b.NoTip){K n:Nat}(hK:65536^3000=2^K){L:Nat}(hL:65536^(3000+3000+1)=2^L)(hKn:K<n)(hLn:K+1+L<n):∃x,b.eqQ n=some x/\b.Bal x.1 x.2:=by
 obtain⟨j,rfl⟩:∃j,n=j+1:=⟨n-1,J⟩;obtain⟨ml,l1,l2,l3⟩:=tY h hsz hl hn (s := -1) (.inr O) hK j 0 J J;obtain⟨mh,g1,g2,g3⟩:=tY h hsz hl hn (s:=1) (.inl O) hK j 0 J J;rw[show(((2:Nat)^0:Nat):Rat)=1 by rfl]at l2 g2;have hml:((2^ml:Nat):Rat)<=((2^K:Nat):Rat):=by exact_mod_cast Nat.pow_le_pow_right Y l1
 have hmh:((2^mh:Nat):Rat)<=((2^K:Nat):Rat):=by exact_mod_cast Nat.pow_le_pow_right Y g1
 have hml0:(0:Rat)<((2^ml:Nat):Rat):=by exact_mod_cast Nat.pow_pos Y
 have hmh0:(0:Rat)<((2^mh:Nat):Rat):=by exact_mod_cast Nat.pow_pos Y
 have hW0:(0:Rat)<((2^L:Nat):Rat):=by exact_mod_cast Nat.pow_pos Y
 have hWL:((2^K:Nat):Rat)*2*((2^L:Nat):Rat)<((2^(j+1):Nat):Rat):=by
  have:2^K*2*2^L<2^(j+1):=by
   rw[<-Nat.pow_succ,<-Nat.pow_add];exact Nat.pow_lt_pow_right Y J
  exact_mod_cast this
 rw[eqQ,l2,g2];dsimp only;generalize ((2^ml:Nat):Rat)=wl at *
 generalize ((2^mh:Nat):Rat)=wh at *
 generalize ((2^K:Nat):Rat)=wk at *
 cases hf:b.fst3 (-wl) wh with
 |some x =>
  refine⟨x,O,?_⟩;unfold fst3 at hf;split at hf
  .rename_i hx;cases hf;exact nW (hl _) hx
  .split at hf
   .rename_i hx;cases hf;exact nW (hl _) hx
   .exact nW (hl _) hf
 |none =>
  dsimp only;have hno:b.at1 (-wl)=none/\b.at1 wh=none:=by
   unfold fst3 at hf;split at hf
   .cases hf
   .split at hf
    .cases hf
    .exact⟨‹_›,hf⟩
  have key:∀t,b.at1 t=none->b.E t≠0/\b.guess (b.sg t) t=none:=by
   intro t h1;unfold at1 at h1;split at h1
   .cases h1
   .exact⟨‹_›,h1⟩
  obtain⟨e1,e2⟩:=key _ hno.1;obtain⟨e3,e4⟩:=key _ hno.2;rw[show(-1:Rat)*wl = -wl by grind]at l3;rw[show(1:Rat)*wh=wh by grind]at g3;refine oH h hsz hl (W:=((2^L:Nat):Rat)) (by rw[hL]) (j+1) (-wl) wh aW aW aW e2 ?_;have h1:=Rat.mul_nonneg (show 0<=wk-wl by grind) (Rat.le_of_lt hW0);have h2:=Rat.mul_nonneg (show 0<=wk-wh by grind) (Rat.le_of_lt hW0);generalize ((2^L:Nat):Rat)=W at *
  grind
end Bd
def dW:List (Rat × Rat)->Rat->Rat
 |[],_=>0
 |x::l,z=>x.2*eF (z-x.1)+dW l z
def lI:List (Rat × Rat)->Rat
 |[]=>0
 |x::l=>x.2+lI l
theorem jq (l m:List (Rat × Rat))(z:Rat):dW (l++m) z=dW l z+dW m z:=by
 induction l with
 |nil=>rw[List.nil_append,dW];grind
 |cons x l ih=>rw[List.cons_append,dW,dW,ih];grind
theorem tX (l m:List (Rat × Rat)):lI (l++m)=lI l+lI m:=by
 induction l with
 |nil=>rw[List.nil_append,lI];grind
 |cons x l ih=>rw[List.cons_append,lI,lI,ih];grind
theorem AD {l m:List (Rat × Rat)}(h:l.Perm m)(z:Rat):dW l z=dW m z:=by
 induction h with
 |nil=>rfl
 |cons x _ ih=>rw[dW,dW,ih]
 |swap x y l=>simp only[dW];grind
 |trans _ _ h1 h2=>rw[h1,h2]
theorem kX {l:List (Rat × Rat)}{z:Rat}(h:∀x∈l,z<=x.1):dW l z=0:=by
 induction l with
 |nil=>rfl
 |cons x l ih =>
  have h1:=h x ah;rw[dW,ih fun y hy=>h y (by simp[hy]),eF,if_neg aW];grind
theorem nA {l:List (Rat × Rat)}{a z:Rat}(h:∀x∈l,x.1<=a)(hz:a<=z):dW l z=dW l a+lI l*(z-a):=by
 induction l with
 |nil=>simp only[dW,lI];grind
 |cons x l ih =>
  have h1:=h x ah;have e1:eF (z-x.1)=z-x.1:=by rw[eF];grind
  have e2:eF (a-x.1)=a-x.1:=by rw[eF];grind
  simp only[dW,lI];rw[ih fun y hy=>h y (by simp[hy]),e1,e2];grind
def BS (w:Rat):List (Rat × Rat)->Rat->Rat->Rat->Rat
 |[],c,k,a=>if 0<k then a+(w-c)/k else a
 |x::l,c,k,a=>if 0<k then(if w<=c+k*(x.1-a) then a+(w-c)/k else BS w l (c+k*(x.1-a)) (k+x.2) x.1) else BS w l c (k+x.2) x.1
theorem HD {Φ:Rat->Rat}{w c k a:Rat}(hm:∀x y,x<=y->Φ x<=Φ y)(ha:Φ a=c)(hc:c<w)(hk:0<k)(hu:∀z,a<=z->z<=a+(w-c)/k->Φ z=c+k*(z-a)):Φ (a+(w-c)/k)=w/\∀z',z'<a+(w-c)/k->Φ z'<w:=by
 have hq:(w-c)/k*k=w-c:=Rat.div_mul_cancel aW;have h0:0<=(w-c)/k:=by rw[Rat.div_def];exact Rat.mul_nonneg aW (Rat.le_of_lt (Rat.inv_pos.2 hk))
 generalize (w-c)/k=d at *
 refine⟨by rw[hu _ aW Rat.le_refl];grind,fun z' hz=>?_⟩;rcases Classical.em (a<=z') with h|h
 .rw[hu z' h aW];have:=Rat.mul_pos hk (show 0<a+d-z' by grind);grind
 .have:=hm z' a aW;grind
theorem IX {w:Rat}{Φ:Rat->Rat}(hm:∀x y,x<=y->Φ x<=Φ y)(hw:0<w)(hex:∃z,w<=Φ z):∀(R P:List (Rat × Rat)) (c k a:Rat),(∀z,Φ z=dW P z+dW R z)->R.Pairwise (fun x y=>x.1<=y.1) ->
  ((P=[]/\c=0/\k=0)\/((∀x∈P,x.1<=a)/\(∀x∈R,a<=x.1)/\Φ a=c/\c<w/\k=lI P))->Φ (BS w R c k a)=w/\∀z',z'<BS w R c k a->Φ z'<w:=by
 intro R
 induction R with
 |nil =>
  intro P c k a hΦ _ h;obtain⟨z0,hz0⟩:=hex;rcases h with⟨rfl,rfl,rfl⟩|⟨h1,_,h3,h4,h5⟩
  .exfalso;rw[hΦ]at hz0;simp only[dW]at hz0;grind
  .have hline:∀z,a<=z->Φ z=c+k*(z-a):=fun z hz=>by
    have e1:=hΦ z;have e2:=hΦ a;rw[nA h1 hz,<-h5]at e1;simp only[dW]at e1 e2;grind
   rw[BS];split
   .rename_i hk;exact HD hm h3 h4 hk fun z hz _=>hline z hz
   .rename_i hk;exfalso;rcases Classical.em (a<=z0) with hz|hz
    .rw[hline z0 hz]at hz0;have:=Rat.mul_nonneg (show 0 <= -k by grind) (show 0<=z0-a by grind);grind
    .have:=hm z0 a aW;grind
 |cons x R ih =>
  intro P c k a hΦ hs h;rw[List.pairwise_cons]at hs;have hΦ':∀z,Φ z=dW (P++[x]) z+dW R z:=fun z=>by
   rw[hΦ,jq];simp only[dW];grind
  rcases h with⟨rfl,rfl,rfl⟩|⟨h1,h2,h3,h4,h5⟩
  .rw[BS,if_neg aW];refine ih ([]++[x]) 0 (0+x.2) x.1 hΦ' hs.2 (.inr ⟨fun y hy=>by simp at hy;subst hy;exact Rat.le_refl,fun y hy=>hs.1 y hy,?_,hw,by simp only[lI,List.nil_append];grind⟩);rw[hΦ,kX (l:=x::R) fun y hy=>?_]
   .simp only[dW];grind
   .rcases List.mem_cons.1 hy with rfl|hy
    .exact Rat.le_refl
    .exact hs.1 y hy
  .have hax:=h2 x ah;have hline:∀z,a<=z->z<=x.1->Φ z=c+k*(z-a):=fun z hz hzx=>by
    have e1:=hΦ z;have e2:=hΦ a;rw[nA h1 hz,<-h5,kX (l:=x::R) fun y hy=>?_]at e1
    .rw[kX (l:=x::R) fun y hy=>h2 y hy]at e2;grind
    .rcases List.mem_cons.1 hy with rfl|hy
     .exact hzx
     .have:=hs.1 y hy;grind
   have hx1:=hline x.1 hax Rat.le_refl;have hP:∀y∈P++[x],y.1<=x.1:=fun y hy=>by
    rcases List.mem_append.1 hy with hy|hy
    .have:=h1 y hy;grind
    .simp at hy;subst hy;exact Rat.le_refl
   have hcs:k+x.2=lI (P++[x]):=by rw[tX,<-h5];simp only[lI];grind
   rw[BS];split
   .rename_i hk;split
    .rename_i hle;refine HD hm h3 h4 hk fun z hz hz2=>hline z hz ?_;have hq:(w-c)/k*k=w-c:=Rat.div_mul_cancel aW;generalize (w-c)/k=d at *
     rcases Classical.em (z<=x.1) with hc|hc
     .exact hc
     .have:=Rat.mul_pos hk (show 0<a+d-x.1 by grind);grind
    .rename_i hlt;exact ih (P++[x]) _ _ _ hΦ' hs.2 (.inr ⟨hP,fun y hy=>hs.1 y hy,hx1,aW,hcs⟩)
   .rename_i hk;have h6:=hm a x.1 hax;have h7:=Rat.mul_nonneg (show 0 <= -k by grind) (show 0<=x.1-a by grind);exact ih (P++[x]) _ _ _ hΦ' hs.2 (.inr ⟨hP,fun y hy=>hs.1 y hy,aW,h4,hcs⟩)
namespace Bd
variable {b:Bd}
def bnd1 (b:Bd)(t:Rat)(i:Nat):List (Rat × Rat):=(List.range (b.n i)).map fun k=>(b.S i k-(b.C i+t*b.X i),b.M i k-bI (b.M i) k)
def bnds (b:Bd)(t:Rat):List (Rat × Rat):=(List.range b.N).flatMap (b.bnd1 t)
theorem Ch (b:Bd)(z t:Rat)(i:Nat):dW (b.bnd1 t i) z=b.f z t i:=by
 have key:∀m,dW ((List.range m).map fun k=>(b.S i k-(b.C i+t*b.X i),b.M i k-bI (b.M i) k)) z=am (dc (b.S i) (b.M i) (b.y z t i)) m:=by
  intro m
  induction m with
  |zero=>rfl
  |succ m ih =>
   rw[List.range_succ,List.map_append,jq,ih,am,mU];simp only[List.map_cons,List.map_nil,dW];rw[show z-(b.S i m-(b.C i+t*b.X i))=b.y z t i-b.S i m by rw[y];grind];grind
 exact key (b.n i)
theorem Ci (b:Bd)(z t:Rat):dW (b.bnds t) z=b.F z t:=by
 have key:∀m,dW ((List.range m).flatMap (b.bnd1 t)) z=am (b.f z t) m:=by
  intro m
  induction m with
  |zero=>rfl
  |succ m ih =>
   rw[List.range_succ,List.flatMap_append,jq,ih,am];simp only[List.flatMap_cons,List.flatMap_nil,List.append_nil,Ch]
 exact key b.N
theorem settled_least (h:b.Ok){t:Rat}(hex:∃z,b.w<=b.F z t){l:List (Rat × Rat)}(hp:l.Perm (b.bnds t))(hs:l.Pairwise fun x y=>x.1<=y.1):b.Least (BS b.w l 0 0 0) t:=by
 refine IX (Φ:=fun z=>b.F z t) (fun x y hxy=>HY h hxy) h.pos hex l [] 0 0 0 (fun z=>?_) hs (.inl ⟨O,O,O⟩);rw[AD hp,Ci,dW];grind
theorem Fy (_h:b.Ok)(t:Rat):∃z0:Rat,∀z,z0<=z->b.Inc b.n z t:=by
 have key:∀m,m<=b.N->∃z0:Rat,∀z,z0<=z->∀i,i<m->BU (b.n i) (b.S i) (b.n i) (b.y z t i):=by
  intro m
  induction m with
  |zero=>exact fun _=>⟨0,fun _ _ i hi=>by omega⟩
  |succ m ih =>
   intro hm;obtain⟨z0,h1⟩:=ih J;cases hn:b.n m with
   |zero =>
    refine⟨z0,fun z hz i hi=>?_⟩;by_cases he:i<m
    .exact h1 z hz i he
    .obtain rfl:i=m:=J;exact⟨aP,fun k hk=>by omega,fun hk=>by omega⟩
   |succ k =>
    obtain⟨u,g0,g1,g2⟩:=oF z0 (b.S m k-(b.C m+t*b.X m));refine⟨u,fun z hz i hi=>?_⟩;by_cases he:i<m
    .exact h1 z aW i he
    .obtain rfl:i=m:=J;refine⟨aP,fun k' hk'=>?_,fun hk=>by omega⟩;obtain rfl:k=k':=J;rw[y];grind
 exact key b.N (aP)
theorem enough (h:b.Ok)(t:Rat)(hd:¬((∀i,i<b.N->b.lim i)/\am b.cap b.N<b.w)):∃z,b.w<=b.F z t:=by
 obtain⟨z0,h0⟩:=Fy h t;rcases Classical.em (∀i,i<b.N->b.lim i) with hl|hl
 .have hc:b.w<=am b.cap b.N:=by
   rcases Classical.em (am b.cap b.N<b.w) with hc|hc
   .exact absurd ⟨hl,hc⟩ hd
   .grind
  refine⟨z0,?_⟩;have:b.F z0 t=am b.cap b.N:=cy fun i hi=>qe (h.crv i hi) (h0 z0 Rat.le_refl i hi) (hl i hi);rw[this];exact hc
 .obtain⟨i,hi,hn⟩:∃i,i<b.N/\¬b.lim i:=by
   rcases Classical.em (∃i,i<b.N/\¬b.lim i) with hx|hx
   .exact hx
   .exact absurd (fun i hi=>by
     rcases Classical.em (b.lim i) with hc|hc
     .exact hc
     .exact absurd ⟨i,hi,hc⟩ hx) hl
  have hpos:0<b.k b.n i:=by
   have:=B_ (h.crv i hi) (Nat.le_refl (b.n i));have h2:bI (b.M i) (b.n i)≠0:=hn;rw[k];grind
  obtain⟨u0,hu⟩:=jS (g:=b.k b.n i) (c:=b.k b.n i*(b.C i+t*b.X i)-b.o b.n i) (B:=b.w) hpos;obtain⟨z,_,g1,g2⟩:=oF z0 u0;refine⟨z,?_⟩;have h1:=hu z g2;have h2:=f_at h (h0 z g1) hi;have h3:=mn (f:=b.f z t) (fun k hk=>f_nn h hk) hi;rw[y]at h2;rw[F];grind
end Bd
def uQ (n:Nat)(S:Nat->Rat)(y:Rat)(k:Nat):Rat:=eF (vY S n y k-S k)
def IB (n:Nat)(S M:Nat->Rat)(y:Rat)(k:Nat):Rat:=M k*(uQ n S y k*(y-S k)-uQ n S y k*uQ n S y k/2)
def Li (n:Nat)(S M:Nat->Rat)(y:Rat):Rat:=am (IB n S M y) n
namespace Bd
variable {b:Bd}
def U (b:Bd)(z t:Rat):Rat:=am (fun i=>Li (b.n i) (b.S i) (b.M i) (b.y z t i)) b.N-b.w*(z+t*b.A)
end Bd
def gR (S M:Nat->Rat)(y:Rat)(k:Nat):Rat:=if y-S k<0 then 0 else M k-bI M k
def Ej (n:Nat)(S M:Nat->Rat)(y:Rat):Rat:=am (gR S M y) n
theorem Gy {c:CR}(hc:c.Lim)(q:Rat)(k:Nat):HQ (gR c.s c.m q k) 27:=by
 rw[gR];split
 .exact HQ.zero.mono J
 .exact pr hc k
noncomputable def Jb:Array Tmp × Code × Code:=(nw ((Tryz.f281.body).getD .skip)).getD (#[],.skip,.skip)
set_option maxRecDepth 20000 in
theorem vM {s0:St}{q0 q2 q3 g4 g7 b4:Nat}{x2 x3 x1004:Cont}{bf V0 V1 CH FA:RR}(hadd:Ret Tryz.prog .shared 91 [.agg (eR V0),.agg (eR CH)] (.agg (eR V1))) :
  y3 Tryz.prog (s0.over [(7,.ptr 1007 g7 0 0)] []) q0 q2 q3 g4 g7 b4 19 20 Jb.2.1 Jb.2.2 x2 x3 x1004 bf V0 V1 CH FA:=by
 intro own hf oA hPost;have ho:own=(St.over { reg:=fun _ => .raw undef,own:=own } [] (HG q0 q2 q3 g4 g7 b4 (cq #[19,20] Jb.2.1 Jb.2.2 .ready none (s0.over [(7,.ptr 1007 g7 0 0)] []).reg) x2 x3 x1004 bf V0)).own:=congrArg St.own (Fit.over hf).symm;rw[ho];clear ho hf;generalize (St.mk (fun _ => .raw undef) own)=s1;refine H ?_;refine⟨O,?_⟩;refine G hadd ?_;refine H ?_;exact hPost _ ⟨O,O,O,O,O,O,trivial⟩
set_option maxRecDepth 20000 in
theorem Bg (c:CR)(hc:c.Lim)(h0:cN c=0)(y:RR){q:Rat}{n:Nat}[hy:Vq y q n](hn:n<=100000):Ret Tryz.prog .shared 281 [.agg (eC c),.agg (eR y)] (.tup [.agg (eR (ofQ (Ej c.S.length c.s c.m q))),I 0]):=by
 have hcc:=eJ c hc;rw[h0]at hcc;obtain⟨h40,hSM,-,hasc⟩:=eM h0;have hz:=fi 0 Y Y;rw[show(((0:Int):Rat))=0 from O]at hz;have hsum:∀i,i<=40->Vq (ofQ (am (gR c.s c.m q) i)) (am (gR c.s c.m q) i) (i*(27+1)+4):=fun i _=>Vq.ofQ (h:=bw i fun k _=>Gy hc q k);refine Ret.of_pwpR layOk mixed Go.Proofs.Tryz.func281 O Y O O O ?_;refine ar hcc ?_;refine G hz ?_
 (repeat ((fail_if_success (with_reducible refine aQ 5 ?_));refine cx O ?_))
 refine aE (Ghost.move (k:=2) (k':=1002) (t:=2) O O O O) ?_;refine aE (Ghost.move (k:=3) (k':=1003) (t:=3) O O O O) ?_;refine aE (Ghost.move (k:=4) (k':=1004) (t:=4) O O O O) ?_;refine aE (Ghost.move (k:=7) (k':=1007) (t:=7) O O O O) ?_
 ((repeat ((fail_if_success (with_reducible refine aQ 5 ?_));refine cx O ?_));refine aM 2 ?_)
 iterate 2 refine fB O ?_
 refine aY ?_;refine aV O (bT layOk O O Go.Proofs.Tryz.func284 O Y O O ?_)
 (repeat ((fail_if_success (with_reducible refine aQ 1 ?_));refine cx O ?_))
 refine aE (Ghost.move (k:=2) (k':=2002) (t:=2) O O O O) ?_;refine aE (Ghost.move (k:=3) (k':=2003) (t:=3) O O O O) ?_;refine H ?_;refine sy O O ?_;refine aO ?_;refine H ?_;refine bH [(7,.ptr 1007 1 0 0),(4,.ptr 1004 1 0 0),(18,.clo 291 [.ptr 2002 1 0 0,.ptr 2003 1 0 0])] [(2002,1,⟨134,2,[eC c],2⟩),(2003,1,⟨42,4,[eR y],2⟩),(1004,1,⟨42,4,[[.bool false,.nil,.bool false,.nil]],2⟩),(1007,1,⟨42,4,[eR (ofQ 0)],2⟩)] ⟨O,O,O,O,O,O,O,trivial⟩ ?_;intro s3;refine vi (rG (ps:=#[19,20]) (asg:=Jb.2.1) (body:=Jb.2.2) 2000 O Go.Proofs.Tryz.func291 O O O O O O ?_);generalize hq0:(s3.own 2000).1+1=q0;refine pC (q:=q) (n:=n) (q0:=q0) (q2:=1) (q3:=1) (g4:=1) (g7:=1) c hc y hy J hSM (fun i=>ofQ (am (gR c.s c.m q) i)) _ ⟨by rw[<-hq0];rfl,O,O,O,O,trivial⟩ ?_ ?_
 .intro i hi hpos b4 bf;have hadd:=cJ (ofQ (am (gR c.s c.m q) i)) (ofQ (c.m i-bI c.m i)) (hx:=hsum i J) (hy:=Vq.ofQ (h:=pr hc i)) J Y;rw[show am (gR c.s c.m q) i+(c.m i-bI c.m i)=am (gR c.s c.m q) (i+1) by rw[am,gR,if_neg hpos]]at hadd;exact vM (s0:=s3.over [(4,.ptr 1004 1 0 0),(18,.clo 291 [.ptr 2002 1 0 0,.ptr 2003 1 0 0])] []) hadd
 .intro i hi hor b4 bf s2 hf;have hres:am (gR c.s c.m q) i=Ej c.S.length c.s c.m q:=rF hasc (fun k hk=>by rw[gR,if_pos hk]) hi hor;dsimp only at hf;rw[hres]at hf;rw[<-Fit.over (l:=[]) hf];exact bV
def Weak (a b:PV):Prop:=∀(w:World) (ok:Nat->Prop) (v:Value),DRep w ok a v->DRep w ok b v
theorem Weak.rfl (a:PV):Weak a a:=fun _ _ _ h=>h
theorem Weak.nil:Weak .nil (.sl []):=fun w ok v h=>by cases h;exact .sl0 none 0
inductive WeakL:List PV->List PV->Prop
 |nil:WeakL [] []
 |cons {a b:PV} {l m:List PV}:Weak a b->WeakL l m->WeakL (a::l) (b::m)
theorem WeakL.refl:∀l,WeakL l l
 |[] => .nil
 |a::l => .cons (.rfl a) (WeakL.refl l)
theorem WeakL.spec {l m:List PV}(h:WeakL l m):l.length=m.length/\∀(i:Nat) (b:PV),m[i]? = some b->∃a,l[i]? = some a/\Weak a b:=by
 induction h with
 |nil=>exact⟨by rfl,fun i b hb=>by simp at hb⟩
 |cons h1 _ ih =>
  refine⟨by simp[ih.1],fun i b hb=>?_⟩;cases i with
  |zero=>simp at hb;subst hb;exact⟨_,by rfl,h1⟩
  |succ i=>simpa using ih.2 i b (by simpa using hb)
theorem WeakL.agg {l m:List PV}(h:WeakL l m):Weak (.agg l) (.agg m):=fun w ok v hv=>by
 cases hv with
 |agg _ vs hl hd =>
  refine .agg _ vs (by rw[<-h.spec.1];exact hl) fun i c u hc hu=>?_;obtain⟨a,ha,hw⟩:=h.spec.2 i c hc;exact hw _ _ _ (hd i a u ha hu)
theorem WeakL.tup {l m:List PV}(h:WeakL l m):Weak (.tup l) (.tup m):=fun w ok v hv=>by
 cases hv with
 |tup _ vs hl hd =>
  refine .tup _ vs (by rw[<-h.spec.1];exact hl) fun i c u hc hu=>?_;obtain⟨a,ha,hw⟩:=h.spec.2 i c hc;exact hw _ _ _ (hd i a u ha hu)
theorem Ret.weak {P:Program}{m:Mode}{f:FuncId}{pargs pargs':List PV}{r r':PV}(h:Ret P m f pargs r')(ha:WeakL pargs' pargs)(hr:Weak r' r):Ret P m f pargs' r:=by
 obtain⟨hc,h⟩:=h;refine⟨hc,fun w X args hg hX hl hargs=>?_⟩;refine(h w X args hg hX (by rw[<-ha.spec.1];exact hl) fun i c v e1 e2=>?_).mono ?_
 .obtain⟨a,e3,hw⟩:=ha.spec.2 i c e1;exact hw _ _ _ (hargs i a v e3 e2)
 .rintro e w' ⟨u,h1,h2,h3⟩;exact⟨u,h1,h2,hr _ _ _ h3⟩
def zN:List PV:=[.bool false,.nil,.bool false,.nil]
theorem cK:WeakL zN (eR RR.zero) := .cons (.rfl _) (.cons .nil (.cons (.rfl _) (.cons .nil .nil)))
theorem bG (z:Int)(h:i64 z):Ret Tryz.prog .shared 199 [I z] (.agg (eR (ofQ (z:Rat)))):=by
 have ho:=sP z h.1 h.2;have hw:=j8 (cw z) (by have:=ju (z:=z) (by obtain⟨h1,h2⟩:=h;omega);omega);rw[cm]at hw;generalize ofQ (z:Rat)=X at *
 generalize cw z=Z at *
 refine Ret.of_pwp layOk mixed Go.Proofs.Tryz.func199 O Y O O ?_;refine G ho ?_;refine G hw ?_;exact bV
theorem pM (x:RR){p:Rat}{n:Nat}[hx:Vq x p n](hn:n<=8000000):Ret Tryz.prog .shared 202 [.agg (eR x)] (I (sgn p)):=by
 have hc:=i9 x RR.zero hn Y;rw[Rat.sub_eq_add_neg,Rat.neg_zero,Rat.add_zero]at hc;have hc2:=hc.weak (.cons (.rfl _) (.cons cK.agg .nil)) (.rfl _);generalize sgn p=g at *
 refine Ret.of_pwp layOk mixed Go.Proofs.Tryz.func202 O Y O O ?_;refine ar hc2 ?_;exact cp
theorem uX (x y:RR){p q:Rat}{n m:Nat}[hx:Vq x p n][hy:Vq y q m](hn:n<=20000000)(hm:m<=20000000)(h0:q≠0):Ret Tryz.prog .shared 207 [.agg (eR x),.agg (eR y)] (.agg (eR (ofQ (p/q)))):=by
 have hq:=vj x y hn hm;rw[if_neg h0]at hq;generalize ofQ (p/q)=X at *
 refine Ret.of_pwp layOk mixed Go.Proofs.Tryz.func207 O Y O O ?_;refine G hq ?_;exact bV
theorem JJ (x:RR){p:Rat}{n:Nat}[hx:Vq x p n](hn:n<=10000000):Ret Tryz.prog .shared 205 [.agg (eR x)] (.agg (eR (ofQ (-p)))):=by
 have hs:=jc RR.zero x Y hn;rw[Rat.sub_eq_add_neg,Rat.zero_add]at hs;have hs2:=hs.weak (.cons cK.agg (.cons (.rfl _) .nil)) (.rfl _);generalize ofQ (-p)=X at *
 refine Ret.of_pwp layOk mixed Go.Proofs.Tryz.func205 O Y O O ?_;refine G hs2 ?_;exact bV
theorem FK (x:RR){p:Rat}{n:Nat}[hx:Vq x p n](hn:n<=10000000):Ret Tryz.prog .shared 233 [.agg (eR x)] (.agg (eR (ofQ p))):=by
 have hs:=cJ x RR.zero J Y;rw[Rat.add_zero]at hs;have hs2:=hs.weak (.cons (.rfl _) (.cons cK.agg .nil)) (.rfl _);generalize ofQ p=X at *
 refine Ret.of_pwp layOk mixed Go.Proofs.Tryz.func233 O Y O O ?_;refine G hs2 ?_;exact bV
structure SR.Lim (s:SR):Prop where
 x:i64 s.x
 c:s.c.sz 12
 k:s.k.Lim
def yQ (s:SR)(z t:Rat):Rat:=s.c.val+(z+t*(s.x:Rat))
theorem zH {s:SR}(hs:s.Lim){z t:Rat}{n m:Nat}(hz:HQ z n)(ht:HQ t m):HQ (yQ s z t) (13+(n+(m+4)+1)+1):=by
 have hx:Zb s.x:=aK hs.x.1 hs.x.2;exact @HQ.add _ _ 13 (n+(m+4)+1) hs.c.v.hq (@HQ.add _ _ n (m+4) hz (@HQ.mul _ _ m 4 ht HQ.int))
structure AR where
 z:RR
 t:RR
def eA (a:AR):List PV:=eR a.z++eR a.t
class Va (a:AR) (z t:outParam Rat) (n m:outParam Nat):Prop where
 z:Vq a.z z n
 t:Vq a.t t m
theorem mF (s:SR)(hs:s.Lim)(a:AR){z t:Rat}{n m:Nat}[ha:Va a z t n m](hn:n<=1000000)(hm:m<=1000000):Ret Tryz.prog .shared 259 [.agg (eS s),.agg (eA a)] (.agg (eR (ofQ (yQ s z t)))):=by
 have hx:Zb s.x:=aK hs.x.1 hs.x.2;have hzh:=ha.z.hq;have hth:=ha.t.hq;have hw:=bG s.x hs.x;have h1:=eW a.t (ofQ (s.x:Rat)) (hx:=ha.t) J Y;have v1:Vq (ofQ (t*(s.x:Rat))) (t*(s.x:Rat)) (m+1+4):=Vq.ofQ (h:=@HQ.mul _ _ (m+1) 4 hth HQ.int);have h2:=cJ a.z (ofQ (t*(s.x:Rat))) (hx:=ha.z) (hy:=v1) J J;have v2:Vq (ofQ (z+t*(s.x:Rat))) (z+t*(s.x:Rat)) (n+1+(m+1+4)+1):=Vq.ofQ (h:=@HQ.add _ _ (n+1) (m+1+4) hzh (@HQ.mul _ _ (m+1) 4 hth HQ.int));have h3:=cJ s.c (ofQ (z+t*(s.x:Rat))) (hx:=hs.c.v) (hy:=v2) Y J;rw[yQ];obtain⟨x,c,k⟩:=s;obtain⟨az,at'⟩:=a;simp only at *
 generalize ofQ (c.val+(z+t*(x:Rat)))=X3 at *
 generalize ofQ (z+t*(x:Rat))=X2 at *
 generalize ofQ (t*(x:Rat))=X1 at *
 generalize ofQ (x:Rat)=X0 at *
 refine Ret.of_pwp layOk mixed Go.Proofs.Tryz.func259 O Y O O ?_;refine cn 12 [5,6,7,8,9,10,11,12,13,14,15,16] ?_;refine G hw ?_;refine G h1 ?_;refine G h2 ?_;refine G h3 ?_;exact bV
def fQ (s:SR)(z t:Rat):Rat:=fK s.k.S.length s.k.s s.k.m (yQ s z t)
theorem Ah (s:SR)(hs:s.Lim)(hk:cN s.k=0)(a:AR){z t:Rat}{n m:Nat}[ha:Va a z t n m](hn:n+m<=90000):Ret Tryz.prog .shared 213 [.agg (eS s),.agg (eA a)] (.agg (eR (ofQ (fQ s z t)))):=by
 have h1:=mF s hs a J J;have v1:Vq (ofQ (yQ s z t)) (yQ s z t) (13+(n+1+(m+1+4)+1)+1):=Vq.ofQ (h:=zH hs ha.z.hq ha.t.hq);have h2:=BA s.k hs.k hk (ofQ (yQ s z t)) (hy:=v1) J;rw[fQ];generalize ofQ (fK s.k.S.length s.k.s s.k.m (yQ s z t))=X2 at *
 generalize ofQ (yQ s z t)=X1 at *
 obtain⟨x,c,k⟩:=s;obtain⟨az,at'⟩:=a;simp only at *
 refine Ret.of_pwp layOk mixed Go.Proofs.Tryz.func213 O Y O O ?_;refine H ?_;refine bS [5] [9,10] aT ?_;refine G h1 ?_;refine G h2 ?_;exact bV
theorem Fz (x:Int):Ret Tryz.prog .shared 244 [I x] (.bool (decide (x < -1000000\/1000000<x))):=by
 by_cases h1:x < -1000000
 .rw[decide_eq_true (.inl h1)];refine Ret.of_pwp layOk mixed Go.Proofs.Tryz.func244 O Y O O ?_;refine dE ?_ ?_<;>intro h
  .exact gV
  .exact absurd h1 (aG h)
 .rw[show decide (x < -1000000\/1000000<x)=decide (1000000<x) by rw[decide_eq_decide];omega];refine Ret.of_pwp layOk mixed Go.Proofs.Tryz.func244 O Y O O ?_;refine dE ?_ ?_<;>intro h
  .exact absurd (aC h) h1
  .exact gV
theorem oG (x:RR){p:Rat}{m:Nat}[hx:Vq x p m](hm:m<=1000000)(n:Int)(h0:0<=n)(h1:n<=1000000000):Ret Tryz.prog .shared 197 [.agg (eR x),I n] (.bool (decide (p < -(n:Rat)\/(n:Rat)<p))):=by
 have hw1:=bG (-n) ⟨J,J⟩;have hw2:=bG n ⟨J,J⟩;have z1:Zb (-n):=aK J J;have z2:Zb n:=aK J J;have hc1:=i9 x (ofQ ((-n:Int):Rat)) J Y;have hc2:=i9 x (ofQ (n:Rat)) J Y;have hn:IntKind.i64.wrap (0-n) = -n:=by rw[wrap_i64 J J];omega
 have e1:=cP (p-((-n:Int):Rat));have e2:=iS (p-(n:Rat));have en:(((-n:Int)):Rat) = -(n:Rat):=by push_cast;rfl
 have key:decide (p < -(n:Rat)\/(n:Rat)<p)=(decide (sgn (p-((-n:Int):Rat))<0)||decide (0<sgn (p-(n:Rat)))):=by
  rw[<-Bool.decide_or,decide_eq_decide,e1,e2,en];constructor
  .rintro(h|h)
   .left;grind
   .right;grind
  .rintro(h|h)
   .left;grind
   .right;grind
 rw[key];generalize sgn (p-((-n:Int):Rat))=g1 at *
 generalize sgn (p-(n:Rat))=g2 at *
 generalize ofQ ((-n:Int):Rat)=W1 at *
 generalize ofQ (n:Rat)=W2 at *
 refine Ret.of_pwp layOk mixed Go.Proofs.Tryz.func197 O Y O O ?_;refine cn 14 [5,6,7,8,9,10,11,12,13,14,15,16,17,4] ?_;refine H ?_;rw[hn];refine nR O O O hw1 O O ?_;refine ar hc1 ?_;refine dE ?_ ?_<;>intro h
 .rw[h];clear h;exact gV
 .rw[h];clear h;refine G hw2 ?_;refine ar hc2 ?_;exact gV
def cZ {α:Type}(f:α->Int):List α->Int
 |[]=>0
 |s::r=>if f s=0 then cZ f r else f s
theorem uh {α:Type}(f:α->Int){l:List α}{i:Nat}{s:α}(h:l[i]? = some s):cZ f (l.drop i)=if f s=0 then cZ f (l.drop (i+1)) else f s:=by
 obtain⟨hl,rfl⟩:=bb h;rw[List.drop_eq_getElem_cons hl,cZ]
theorem kO {α:Type}{f:α->Int}:∀ {l:List α},cZ f l=0->∀s∈l,f s=0
 |[],_,s,hs=>by cases hs
 |a::l,h,s,hs=>by
  rw[cZ]at h;by_cases ha:f a=0
  .rw[if_pos ha]at h;rcases List.mem_cons.1 hs with rfl|hs
   .exact ha
   .exact kO h s hs
  .rw[if_neg ha]at h;exact absurd h ha
def mr (s:SR):Int:=if (s.x < -1000000\/1000000<s.x)\/(s.c.val < -((10000000:Int):Rat)\/((10000000:Int):Rat)<s.c.val) then 2 else cN s.k
def cH (l:List SR):Int:=if 100<l.length then 8 else cZ mr l
def kz (l:List SR):Prop:=(∀s∈l,s.Lim)/\l.length<=1000000000
set_option maxRecDepth 20000 in
theorem qO (l:List SR)(hl:kz l):Ret Tryz.prog .shared 198 [.sl (l.map eS)] (I (cH l)):=by
 have hml:(l.map eS).length=l.length:=ah;generalize hE:cH l=E;rw[cH]at hE;obtain⟨hs,hll⟩:=hl;refine Ret.of_pwp layOk mixed Go.Proofs.Tryz.func198 O Y O O ?_;refine D ?_ ?_<;>intro h
 .have h1:=aC h;rw[if_pos J]at hE;subst hE;exact cp
 have h1:¬100<l.length:=by have h1:=aG h;omega
 clear h;rw[if_neg h1]at hE;refine H ?_;refine ap (fun i:Nat=>i<=l.length/\cZ mr (l.drop i)=E) (fun i=>[(9,.sl (l.map eS)),(10,I l.length),(11,I (i:Nat))]) (fun _=>[]) (fun i=>l.length-i) 0 ⟨Nat.zero_le _,by rw[List.drop_zero];exact hE⟩ ⟨O,by rw[<-hml];rfl,O,trivial⟩ ?_;intro i s ⟨hi,hF⟩;refine D ?_ ?_<;>intro h
 .have hlt:i<l.length:=by have:=aC h;omega
  clear h;obtain⟨x,hx⟩:=aJ hlt;have hx':=hs x (bc hx);rw[uh _ hx]at hF;have hfa:=Fz x.x;have hbe:=oG x.c (hx:=hx'.c.v) Y 10000000 Y Y;have hcc:=eJ x.k hx'.k;have hw:=fc i;have hse:mr x=mr x:=O
  conv at hse=>rhs;rw[mr]
  generalize mr x=se at *
  generalize cN x.k=ce at *
  by_cases hq1:x.x < -1000000\/1000000<x.x
  .rw[decide_eq_true hq1]at hfa;rw[if_pos (.inl hq1)]at hse;subst hse;rw[if_neg Y]at hF;subst hF;refine aS hx ?_;refine ar hfa ?_;exact cp
  rw[decide_eq_false hq1]at hfa;by_cases hq2:x.c.val < -((10000000:Int):Rat)\/((10000000:Int):Rat)<x.c.val
  .rw[decide_eq_true hq2]at hbe;rw[if_pos (.inr hq2)]at hse;subst hse;rw[if_neg Y]at hF;subst hF;refine aS hx ?_;refine ar hfa ?_;refine ar hbe ?_;exact cp
  rw[decide_eq_false hq2]at hbe;rw[if_neg (fun h=>h.elim hq1 hq2)]at hse;subst hse;refine aS hx ?_;refine ar hfa ?_;refine ar hbe ?_;refine ar hcc ?_;refine D ?_ ?_<;>intro h
  .have h2:se≠0:=by simpa using h
   clear h;rw[if_neg h2]at hF;subst hF;exact cp
  .have h2:se=0:=by simpa using h
   clear h;rw[if_pos h2]at hF;refine H ?_;exact⟨i+1,⟨J,hF⟩,J,O,O,congrArg I hw,trivial⟩
 .have hie:i=l.length:=by have:=aG h;omega
  clear h;rw[hie,List.drop_length,cZ]at hF;subst hF;exact cp
theorem bC {α:Type}{l:List α}{k:Nat}{x:α}(hx:l[k]? = some x):l.take (k+1)=l.take k++[x]:=by
 rw[List.take_add_one,hx];rfl
structure BR.Lim (b:BR):Prop where
 w:i64 b.w
 a:b.a.sz 12
 l:kz b.l
def ci (b:BR):Int:=if (b.w<1\/1000000000<b.w)\/(b.a.val < -((1000000:Int):Rat)\/((1000000:Int):Rat)<b.a.val) then 2 else cH b.l
theorem dP (b:BR)(hb:b.Lim):Ret Tryz.prog .shared 140 [.agg (eB b)] (I (ci b)):=by
 have hbe:=oG b.a (hx:=hb.a.v) Y 1000000 Y Y;have hc:=qO b.l hb.l;generalize hE:ci b=E;rw[ci]at hE;obtain⟨w,a,l⟩:=b;simp only at *
 generalize cH l=ce at *
 by_cases h1:w<1
 .rw[if_pos (.inl (.inl h1))]at hE;subst hE;refine Ret.of_pwp layOk mixed Go.Proofs.Tryz.func140 O Y O O ?_;refine dE ?_ ?_<;>intro h
  .exact cp
  .exact absurd h1 (aG h)
 by_cases h2:1000000000<w
 .rw[if_pos (.inl (.inr h2))]at hE;subst hE;refine Ret.of_pwp layOk mixed Go.Proofs.Tryz.func140 O Y O O ?_;refine dE ?_ ?_<;>intro h
  .exact cp
  .clear h;refine dE ?_ ?_<;>intro h
   .exact cp
   .exact absurd h2 (aG h)
 by_cases h3:a.val < -((1000000:Int):Rat)\/((1000000:Int):Rat)<a.val
 .rw[decide_eq_true h3]at hbe;rw[if_pos (.inr h3)]at hE;subst hE;refine Ret.of_pwp layOk mixed Go.Proofs.Tryz.func140 O Y O O ?_;refine dE ?_ ?_<;>intro h
  .exact cp
  .clear h;refine dE ?_ ?_<;>intro h
   .exact cp
   .clear h;refine ar hbe ?_;exact cp
 .rw[decide_eq_false h3]at hbe;rw[if_neg (fun h=>h.elim (fun h=>h.elim h1 h2) h3)]at hE;subst hE;refine Ret.of_pwp layOk mixed Go.Proofs.Tryz.func140 O Y O O ?_;refine dE ?_ ?_<;>intro h
  .exact absurd (aC h) h1
  .clear h;refine dE ?_ ?_<;>intro h
   .exact absurd (aC h) h2
   .clear h;refine ar hbe ?_;refine ar hc ?_;exact cp
set_option maxRecDepth 20000 in
theorem qn (l:List SR)(hl:kz l)(hc:cH l=0)(f:FuncId)(caps:List PV)(hcaps:∃c,caps=[.dref c 0])(g:SR->RR)(hg:∀s∈l,Ret Tryz.prog .shared f [.agg (eS s),caps.headD .nil] (.agg (eR (g s)))) :
  Ret Tryz.prog .shared 211 [.sl (l.map eS),.clo f caps] (.tup [.sl ((l.map g).map eR),I 0]):=by
 have hck:=qO l hl;rw[hc]at hck;have hml:(l.map eS).length=l.length:=ah;obtain⟨cc,rfl⟩:=hcaps;simp only[List.headD_cons]at hg;refine Ret.of_pwp layOk mixed Go.Proofs.Tryz.func211 O Y O O ?_;refine ar hck ?_;refine H ?_;refine aE (Ghost.nilreg (k:=7) (t:=7) 42 4 1 O O) ?_;have hrows:∀(k:Nat) x,l[k]? = some x->((l.take (k+1)).map g).map eR=((l.take k).map g).map eR++[eR (g x)]:=fun k x hx=>by rw[bC hx,List.map_append,List.map_append];rfl
 refine ap (fun k=>k<=l.length) (fun k=>[(1,.clo f [.dref cc 0]),(7,.als 7 (k+1) 0 (((l.take k).map g).map eR).length),(15,.sl (l.map eS)),(16,I l.length),(17,I k)]) (fun k=>[(7,k+1,⟨42,4,((l.take k).map g).map eR,1⟩)]) (fun k=>l.length-k) 0 (Nat.zero_le _) ⟨O,O,O,by rw[<-hml];rfl,O,O,trivial⟩ ?_;intro k s hk;refine D ?_ ?_<;>intro h
 .have hlt:k<l.length:=by have:=aC h;omega
  clear h;obtain⟨x,hx⟩:=aJ hlt;have hgx:=hg x (bc hx);have hw:IntKind.i64.wrap (((k:Nat):Int)+1)=((k+1:Nat):Int):=by have:=hl.2;rw[wrap_i64 J J];omega
  have hll:=hl.2;refine aS hx ?_;refine G hgx ?_;refine H ?_;refine aH (bx 1 O O O O O O O O O O O aI O ?_);refine H ?_;refine aH (bQ 1 O O O O O O O O O O O aI (by intro row hr;first|(simp at hr;subst hr;rfl)|simp at hr) O O aU aU ?_);refine H ?_;refine⟨k+1,hlt,J,O,?_,O,O,congrArg I hw,?_,trivial⟩
  .rw[hrows k x hx];rfl
  .rw[hrows k x hx];rfl
 .have hge:k=l.length:=by have:=aG h;omega
  clear h;refine H ?_;exact wP O aI O aI (by rw[hge,List.take_length];rfl)
theorem ui (s:SR)(hs:s.Lim)(hk:cN s.k=0)(a:AR){z t:Rat}{n m:Nat}[ha:Va a z t n m](hn:n+m<=90000):Ret Tryz.prog .shared 212 [.agg (eS s),.dref (eA a) 0] (.agg (eR (ofQ (fQ s z t)))):=by
 have h1:=Ah s hs hk a hn;generalize ofQ (fQ s z t)=X at *
 obtain⟨x,c,k⟩:=s;obtain⟨az,at'⟩:=a;try simp only at *
 refine Ret.of_pwp layOk mixed Go.Proofs.Tryz.func212 O Y O O ?_;refine G h1 ?_;exact bV
theorem cY {l:List SR}(h:cH l=0):∀s∈l,cN s.k=0:=by
 intro s hs;rw[cH]at h;split at h
 .omega
 .have:=kO h s hs;rw[mr]at this;split at this
  .omega
  .exact this
def FL (l:List SR)(z t:Rat):List RR:=l.map fun s=>ofQ (fQ s z t)
theorem kP (l:List SR)(hl:kz l)(hc:cH l=0)(a:AR){z t:Rat}{n m:Nat}[ha:Va a z t n m](hn:n+m<=90000):Ret Tryz.prog .shared 144 [.sl (l.map eS),.agg (eA a)] (.tup [.sl ((FL l z t).map eR),I 0]):=by
 have h1:=qn l hl hc 212 [.dref (eA a) 0] ⟨_,O⟩ (fun s=>ofQ (fQ s z t)) fun s hs=>ui s (hl.1 s hs) (cY hc s hs) a hn;rw[<-FL]at h1;generalize FL l z t=X at *
 obtain⟨az,at'⟩:=a;refine Ret.of_pwp layOk mixed Go.Proofs.Tryz.func144 O Y O O ?_
 (repeat ((fail_if_success (with_reducible refine aQ 1 ?_));refine cx O ?_))
 refine aE (Ghost.data (k:=3) (t:=3) O O O O) ?_;refine G h1 ?_;exact bV
def tD (l:List SR):Prop:=l.length<=12/\∀s∈l,s.k.S.length<=8
theorem CA {s:SR}(hs:s.Lim)(h8:s.k.S.length<=8){z t:Rat}{n m:Nat}(hz:HQ z n)(ht:HQ t m):HQ (fQ s z t) (8*(n+m+60)+4):=by
 rw[fQ,fK];exact(bw s.k.S.length fun k _=>yZ hs.k (zH hs hz ht) k).mono (by have:=Nat.mul_le_mul h8 (show 13+(n+(m+4)+1)+1+32+1<=n+m+60 by omega);omega)
def dS:SR:=⟨0,RR.zero,⟨[],[]⟩⟩
def bd (b:BR):Bd:={ N:=b.l.length,X:=fun i=>((b.l.getD i dS).x:Rat),C:=fun i=>(b.l.getD i dS).c.val,n:=fun i=>(b.l.getD i dS).k.S.length,S:=fun i=>(b.l.getD i dS).k.s,M:=fun i=>(b.l.getD i dS).k.m,w:=b.w,A:=b.a.val }
def fI (l:List SR)(z t:Rat)(i:Nat):Rat:=fQ (l.getD i dS) z t
def gI (l:List SR)(z t:Rat)(i:Nat):Rat:=fQ (l.getD i dS) z t*((l.getD i dS).x:Rat)
theorem br {l:List SR}{i:Nat}(h:i<l.length):l.getD i dS∈l:=bc (bi h)
set_option maxRecDepth 20000 in
theorem Bw (l:List SR)(hl:kz l)(hf:tD l){z t:Rat}{n m:Nat}(hz:HQ z n)(ht:HQ t m)(hn:n+m<=100000):Ret Tryz.prog .shared 277 [.sl (l.map eS),.sl ((FL l z t).map eR)] (.agg (eR (ofQ (am (fI l z t) l.length))++eR (ofQ (am (gI l z t) l.length)))):=by
 have hw0:=bG 0 ⟨Y,Y⟩;rw[show(((0:Int):Rat))=0 from O]at hw0;have hml:(l.map eS).length=l.length:=ah;have hFl:((FL l z t).map eR).length=l.length:=by simp[FL]
 have hFH:∀i,i<l.length->HQ (fI l z t i) (8*(n+m+60)+4):=fun i hi=>CA (hl.1 _ (br hi)) (hf.2 _ (br hi)) hz ht;have hGH:∀i,i<l.length->HQ (gI l z t i) (8*(n+m+60)+4+4):=fun i hi=>by
  have hx:=(hl.1 _ (br hi)).x;have hx:Zb (l.getD i dS).x:=aK hx.1 hx.2;exact @HQ.mul _ _ _ 4 (hFH i hi) HQ.int
 have hB:∀i,i<=l.length->i*(8*(n+m+60)+4+4+1)+4<=12000000:=fun i hi=>by
  have:=hf.1;have:=Nat.mul_le_mul (show i<=12 by omega) (show 8*(n+m+60)+4+4+1<=800489 by omega);omega
 refine Ret.of_pwp layOk mixed Go.Proofs.Tryz.func277 O Y O O ?_;refine G hw0 ?_;refine G hw0 ?_;refine H ?_;refine ap (fun i:Nat=>i<=l.length) (fun i=>[(1,.sl ((FL l z t).map eR)),(4,.ptr 4 1 0 0),(5,.ptr 5 1 0 0),(11,.sl (l.map eS)),(12,I l.length),(13,I (i:Nat))])
  (fun i=>[(4,1,⟨222,8,[zN++zN],2⟩),(5,1,⟨222,8,[eR (ofQ (am (fI l z t) i))++eR (ofQ (am (gI l z t) i))],2⟩)]) (fun i=>l.length-i) 0 (Nat.zero_le _) ⟨O,O,O,O,by rw[<-hml];rfl,O,O,O,trivial⟩ ?_
 intro i s hi;refine D ?_ ?_<;>intro h
 .have hlt:i<l.length:=by have:=aC h;omega
  clear h;have hx:=bi (d:=dS) hlt;have hFi:(FL l z t)[i]? = some (ofQ (fI l z t i)):=by rw[FL,List.getElem?_map,hx];rfl
  have hxx:=(hl.1 _ (br hlt)).x;have hzb:Zb (l.getD i dS).x:=aK hxx.1 hxx.2;have hw:IntKind.i64.wrap (((i:Nat):Int)+1)=((i+1:Nat):Int):=by have:=hf.1;rw[wrap_i64 J J];omega
  have hBi:=hB i hi;have v0:Vq (ofQ (fI l z t i)) (fI l z t i) (8*(n+m+60)+4):=Vq.ofQ (h:=hFH i hlt);have vg:Vq (ofQ (gI l z t i)) (gI l z t i) (8*(n+m+60)+4+4):=Vq.ofQ (h:=hGH i hlt);have v1:Vq (ofQ (am (fI l z t) i)) (am (fI l z t) i) (i*(8*(n+m+60)+4+1)+4):=Vq.ofQ (h:=bw i fun k hk=>hFH k J);have v2:Vq (ofQ (am (gI l z t) i)) (am (gI l z t) i) (i*(8*(n+m+60)+4+4+1)+4):=Vq.ofQ (h:=bw i fun k hk=>hGH k J);have h1:=cJ (ofQ (am (fI l z t) i)) (ofQ (fI l z t i)) (hx:=v1) (hy:=v0) (by have:=Nat.mul_le_mul (Nat.le_refl i) (show 8*(n+m+60)+4+1<=8*(n+m+60)+4+4+1 by omega);omega) J;have h2:=bG (l.getD i dS).x hxx;have h3:=eW (ofQ (fI l z t i)) (ofQ ((l.getD i dS).x:Rat)) (hx:=v0) J Y;have h4:=cJ (ofQ (am (gI l z t) i)) (ofQ (gI l z t i)) (hx:=v2) (hy:=vg) J J;rw[show am (fI l z t) i+fI l z t i=am (fI l z t) (i+1) from O]at h1;rw[show am (gI l z t) i+gI l z t i=am (gI l z t) (i+1) from O]at h4;rw[show fI l z t i*((l.getD i dS).x:Rat)=gI l z t i from O]at h3;generalize hF1:ofQ (am (fI l z t) (i+1))=F1 at *
  generalize hG1:ofQ (am (gI l z t) (i+1))=G1 at *
  generalize ofQ (am (fI l z t) i)=F0 at *
  generalize ofQ (am (gI l z t) i)=G0 at *
  refine aS hx ?_;refine cn 8 [18,19,20,21,22,23,24,25] ?_;refine aS hFi ?_;refine G h1 ?_;refine cn 12 [26,27,28,29,30,31,32,33,34,35,36,37] ?_;refine aS hFi ?_;refine G h2 ?_;refine G h3 ?_;refine G h4 ?_;refine H ?_;refine⟨i+1,hlt,J,O,O,O,O,O,congrArg I hw,O,?_,trivial⟩;show(_:Nat × Option Cont)=(1,some (Cont.mk 222 8 [eR (ofQ (am (fI l z t) (i+1)))++eR (ofQ (am (gI l z t) (i+1)))] 2));rw[hF1,hG1];rfl
 .have hie:i=l.length:=by have:=aG h;omega
  clear h;subst hie;exact bV
structure BR.Ok (b:BR):Prop where
 lim:b.Lim
 chk:ci b=0
 few:tD b.l
theorem tT {b:BR}(h:ci b=0):1<=b.w/\b.w<=1000000000/\cH b.l=0:=by
 rw[ci]at h;split at h
 .omega
 .rename_i h1;exact⟨J,J,h⟩
theorem BR.Ok.chkL {b:BR}(h:b.Ok):cH b.l=0:=(tT h.chk).2.2
set_option maxRecDepth 20000 in
theorem HX {l:List SR}(hl:kz l)(hf:tD l){z t:Rat}{n m:Nat}(hz:HQ z n)(ht:HQ t m):HQ (am (fI l z t) l.length) (96*(n+m+60)+200) :=
 (bw l.length fun i hi=>CA (hl.1 _ (br hi)) (hf.2 _ (br hi)) hz ht).mono (by have:=Nat.mul_le_mul hf.1 (Nat.le_refl (8*(n+m+60)+4+1));omega)
set_option maxRecDepth 20000 in
theorem HZ {l:List SR}(hl:kz l)(hf:tD l){z t:Rat}{n m:Nat}(hz:HQ z n)(ht:HQ t m):HQ (am (gI l z t) l.length) (96*(n+m+60)+200) :=
 (bw (m:=8*(n+m+60)+4+4) l.length fun i hi=>by
  have hx:=(hl.1 _ (br hi)).x;have hx:Zb (l.getD i dS).x:=aK hx.1 hx.2
  exact @HQ.mul _ _ _ 4 (CA (hl.1 _ (br hi)) (hf.2 _ (br hi)) hz ht) HQ.int).mono (by have:=Nat.mul_le_mul hf.1 (Nat.le_refl (8*(n+m+60)+4+4+1));omega)
theorem lw (l:List SR)(hl:kz l)(hc:cH l=0)(hf:tD l)(a:AR){z t:Rat}{n m:Nat}[ha:Va a z t n m](hn:n+m<=90000) :
  Ret Tryz.prog .shared 249 [.sl (l.map eS),.agg (eA a)] (.tup [.agg (eR (ofQ (am (fI l z t) l.length))++eR (ofQ (am (gI l z t) l.length))),I 0]):=by
 have h1:=kP l hl hc a hn;have h2:=Bw l hl hf ha.z.hq ha.t.hq J;generalize ofQ (am (fI l z t) l.length)=X1 at *
 generalize ofQ (am (gI l z t) l.length)=X2 at *
 generalize FL l z t=L at *
 obtain⟨az,at'⟩:=a;refine Ret.of_pwp layOk mixed Go.Proofs.Tryz.func249 O Y O O ?_;refine G h1 ?_;refine G h2 ?_;exact bV
theorem zC {b:BR}(hb:b.Ok):HQ ((b.w:Rat)*b.a.val) 17:=by
 have hw:Zb b.w:=aK hb.lim.w.1 hb.lim.w.2;exact @HQ.mul _ _ 4 13 HQ.int hb.lim.a.v.hq
theorem oV (b:BR)(hb:b.Ok)(a:AR){z t:Rat}{n m:Nat}[ha:Va a z t n m](hn:n+m<=60000):Ret Tryz.prog .shared 203 [.agg (eB b),.agg (eA a)] (.agg (eR (ofQ ((bd b).e z t)))):=by
 have h1:=lw b.l hb.lim.l hb.chkL hb.few a J;have h2:=bG b.w hb.lim.w;have hw:Zb b.w:=aK hb.lim.w.1 hb.lim.w.2;have h3:=eW (ofQ (b.w:Rat)) b.a (hy:=hb.lim.a.v) Y Y;have v1:Vq (ofQ (am (gI b.l z t) b.l.length)) (am (gI b.l z t) b.l.length) (96*(n+1+(m+1)+60)+200):=Vq.ofQ (h:=HZ hb.lim.l hb.few ha.z.hq ha.t.hq);have v2:Vq (ofQ ((b.w:Rat)*b.a.val)) ((b.w:Rat)*b.a.val) 17:=Vq.ofQ (h:=zC hb);have h4:=jc (ofQ (am (gI b.l z t) b.l.length)) (ofQ ((b.w:Rat)*b.a.val)) (hx:=v1) (hy:=v2) J Y;rw[show am (gI b.l z t) b.l.length-(b.w:Rat)*b.a.val=(bd b).e z t from O]at h4;generalize ofQ ((bd b).e z t)=X0 at *
 generalize ofQ (am (fI b.l z t) b.l.length)=X1 at *
 generalize ofQ (am (gI b.l z t) b.l.length)=X2 at *
 generalize ofQ ((b.w:Rat)*b.a.val)=X3 at *
 generalize ofQ (b.w:Rat)=X4 at *
 obtain⟨w,ba,l⟩:=b;obtain⟨az,at'⟩:=a;simp only at *
 refine Ret.of_pwp layOk mixed Go.Proofs.Tryz.func203 O Y O O ?_;refine G h1 ?_;refine cn 9 [14,15,16,17,18,19,20,21,22] ?_;refine G h2 ?_;refine G h3 ?_;refine G h4 ?_;exact bV
theorem Il {b:BR}(hb:b.Ok){z t:Rat}{n m:Nat}(hz:HQ z n)(ht:HQ t m):HQ ((bd b).e z t) (96*(n+m+60)+200+17+1):=@HQ.sub _ _ _ 17 (HZ hb.lim.l hb.few hz ht) (zC hb)
instance (b:Bd) (z t:Rat):Decidable (b.Bal z t):=inferInstanceAs (Decidable (_/\_))
theorem r8 (b:BR)(hb:b.Ok)(a:AR){z t:Rat}{n m:Nat}[ha:Va a z t n m](hn:n+m<=60000):Ret Tryz.prog .shared 255 [.agg (eB b),.agg (eA a)] (.bool (decide ((bd b).Bal z t))):=by
 have h1:=lw b.l hb.lim.l hb.chkL hb.few a J;have h2:=bG b.w hb.lim.w;have hw:Zb b.w:=aK hb.lim.w.1 hb.lim.w.2;have v0:Vq (ofQ (am (fI b.l z t) b.l.length)) (am (fI b.l z t) b.l.length) (96*(n+1+(m+1)+60)+200):=Vq.ofQ (h:=HX hb.lim.l hb.few ha.z.hq ha.t.hq);have h5:=i9 (ofQ (am (fI b.l z t) b.l.length)) (ofQ (b.w:Rat)) (hx:=v0) J Y;have h3:=eW (ofQ (b.w:Rat)) b.a (hy:=hb.lim.a.v) Y Y;have v1:Vq (ofQ (am (gI b.l z t) b.l.length)) (am (gI b.l z t) b.l.length) (96*(n+1+(m+1)+60)+200):=Vq.ofQ (h:=HZ hb.lim.l hb.few ha.z.hq ha.t.hq);have v2:Vq (ofQ ((b.w:Rat)*b.a.val)) ((b.w:Rat)*b.a.val) 17:=Vq.ofQ (h:=zC hb);have h4:=i9 (ofQ (am (gI b.l z t) b.l.length)) (ofQ ((b.w:Rat)*b.a.val)) (hx:=v1) (hy:=v2) J Y;have key:decide ((bd b).Bal z t)=(decide (sgn (am (fI b.l z t) b.l.length-(b.w:Rat))=0)&&decide (sgn (am (gI b.l z t) b.l.length-(b.w:Rat)*b.a.val)=0)):=by
  rw[<-Bool.decide_and,decide_eq_decide,gA,gA];show am (fI b.l z t) b.l.length=(b.w:Rat)/\am (gI b.l z t) b.l.length=(b.w:Rat)*b.a.val↔_;constructor
  .rintro⟨e1,e2⟩;rw[e1,e2];constructor<;>grind
  .rintro⟨e1,e2⟩;constructor<;>grind
 rw[key];generalize sgn (am (fI b.l z t) b.l.length-(b.w:Rat))=g1 at *
 generalize sgn (am (gI b.l z t) b.l.length-(b.w:Rat)*b.a.val)=g2 at *
 generalize ofQ (am (fI b.l z t) b.l.length)=X1 at *
 generalize ofQ (am (gI b.l z t) b.l.length)=X2 at *
 generalize ofQ ((b.w:Rat)*b.a.val)=X3 at *
 generalize ofQ (b.w:Rat)=X4 at *
 obtain⟨w,ba,l⟩:=b;obtain⟨az,at'⟩:=a;simp only at *
 refine Ret.of_pwp layOk mixed Go.Proofs.Tryz.func255 O Y O O ?_;refine G h1 ?_;refine cn 20 [14,15,16,17,18,19,20,21,22,23,24,25,26,27,28,29,30,31,32,4] ?_;refine G h2 ?_;refine ar h5 ?_;refine dE ?_ ?_<;>intro h
 .rw[h];clear h;refine G h2 ?_;refine G h3 ?_;refine ar h4 ?_;exact gV
 .rw[h];clear h;exact gV
theorem y9 {S M:Nat->Rat}{n:Nat}{y:Rat}(h:∀k,k+1<n->S k<S (k+1)):∀m,m<=n->am (gR S M y) m=bI M (nF S y m)
 |0,_=>rfl
 |m+1,hm=>by
  rw[am,y9 h m J,nF,gR];by_cases hy:S m<=y
  .rw[if_pos hy,if_neg aW];have:nF S y m=m:=by
    cases m with
    |zero=>rfl
    |succ j =>
     have:=h j J;rw[nF,if_pos aW]
   rw[this,bI];grind
  .rw[if_neg hy,if_pos aW];grind
def Az (c:CR)(y:Rat):Nat->RR
 |0=>ofQ 0
 |i+1=>if c.s i<y then c.M.getD i RR.zero else Az c y i
theorem C_ {c:CR}(hc:c.Lim)(y:Rat):∀i,Vq (Az c y i) (bI c.m (ry c.s y i)) 12
 |0=>qH c hc 0
 |i+1=>by
  rw[Az,ry];split
  .exact uK c hc i
  .exact C_ hc y i
theorem pG (s:SR)(hs:s.Lim)(hk:cN s.k=0)(a:AR){z t:Rat}{n m:Nat}[ha:Va a z t n m](hn:n+m<=90000):Ret Tryz.prog .shared 280 [.agg (eS s),.dref (eA a) 0] (.agg (eR (ofQ (bI s.k.m (nF s.k.s (yQ s z t) s.k.S.length))))):=by
 have h1:=mF s hs a J J;have v1:Vq (ofQ (yQ s z t)) (yQ s z t) (13+(n+1+(m+1+4)+1)+1):=Vq.ofQ (h:=zH hs ha.z.hq ha.t.hq);have h2:=Bg s.k hs.k hk (ofQ (yQ s z t)) (hy:=v1) J;rw[Ej,y9 (eM hk).2.2.2 _ (aP)]at h2;generalize ofQ (bI s.k.m (nF s.k.s (yQ s z t) s.k.S.length))=X2 at *
 generalize ofQ (yQ s z t)=X1 at *
 obtain⟨x,c,k⟩:=s;obtain⟨az,at'⟩:=a;try simp only at *
 refine Ret.of_pwp layOk mixed Go.Proofs.Tryz.func280 O Y O O ?_;refine H ?_;refine bS [4] [9,10] aT ?_;refine G h1 ?_;refine G h2 ?_;exact bV
set_option maxRecDepth 20000 in
theorem ra (s:SR)(hs:s.Lim)(hk:cN s.k=0)(a:AR){z t:Rat}{n m:Nat}[ha:Va a z t n m](hn:n+m<=90000):Ret Tryz.prog .shared 282 [.agg (eS s),.dref (eA a) 0] (.agg (eR (Az s.k (yQ s z t) s.k.S.length))):=by
 have h1:=mF s hs a J J;have v1:Vq (ofQ (yQ s z t)) (yQ s z t) (13+(n+1+(m+1+4)+1)+1):=Vq.ofQ (h:=zH hs ha.z.hq ha.t.hq);have hw0:=bG 0 ⟨Y,Y⟩;rw[show(((0:Int):Rat))=0 from O]at hw0;have hSM:=(eM hk).2.1;have h40:=(eM hk).1;have hkl:=hs.k;obtain⟨x,c,k⟩:=s;obtain⟨az,at'⟩:=a;simp only at hSM h40 hkl;dsimp only;generalize yQ ⟨x,c,k⟩ z t=y at *
 generalize ofQ y=Y0 at *
 have hSl:(k.S.map eN).length=k.S.length:=ah;refine Ret.of_pwp layOk mixed Go.Proofs.Tryz.func282 O Y O O ?_;refine G h1 ?_;refine G hw0 ?_;refine H ?_;refine ap (fun i:Nat=>i<=k.S.length) (fun i=>[(2,.ptr 2 1 0 0),(3,.ptr 3 1 0 0),(4,.ptr 4 1 0 0),(5,.ptr 5 1 0 0),(14,.sl (k.S.map eN)),(15,I k.S.length),(16,I (i:Nat))])
  (fun i=>[(2,1,⟨136,7,[eS ⟨x,c,k⟩],2⟩),(3,1,⟨42,4,[zN],2⟩),(4,1,⟨42,4,[eR Y0],2⟩),(5,1,⟨42,4,[eR (Az k y i)],2⟩)]) (fun i=>k.S.length-i) 0 (Nat.zero_le _) ⟨O,O,O,O,O,by rw[<-hSl];rfl,O,O,O,O,O,trivial⟩ ?_
 intro i s hi;refine D ?_ ?_<;>intro h
 .have hlt:i<k.S.length:=by have:=aC h;omega
  clear h;have hx:=bi (d:=0) hlt;have hmx:=bi (l:=k.M) (i:=i) (d:=RR.zero) J;have hxb:=nJ hkl i;have hnum:=bG (k.S.getD i 0) hxb;have hzb:Zb (k.S.getD i 0):=aK hxb.1 hxb.2;have hcm:=i9 (ofQ ((k.S.getD i 0:Int):Rat)) Y0 (hy:=v1) Y J;have hsl:=cP (k.s i-y);rw[show((k.S.getD i 0:Int):Rat)=k.s i from O]at hnum hcm;have hw:=fc i;have hst:Az k y (i+1)=if k.s i<y then k.M.getD i RR.zero else Az k y i:=O
  generalize ofQ (k.s i)=N at *
  refine aS hx ?_;refine cn 5 [21,22,23,24,25] ?_;refine G hnum ?_;refine ar hcm ?_;refine D ?_ ?_<;>intro h
  .have h3:k.s i<y:=by have:=hsl.1 (aC h);grind
   clear h;rw[if_pos h3]at hst;refine aS hmx ?_;refine H ?_;refine⟨i+1,hlt,J,O,O,O,O,O,O,congrArg I hw,O,O,O,?_,trivial⟩;show(_:Nat × Option Cont)=(1,some (Cont.mk 42 4 [eR (Az k y (i+1))] 2));rw[hst];rfl
  .have h3:¬k.s i<y:=fun h2=>(aG h) (hsl.2 aW);clear h;rw[if_neg h3]at hst;refine H ?_;refine⟨i+1,hlt,J,O,O,O,O,O,O,congrArg I hw,O,O,O,?_,trivial⟩;show(_:Nat × Option Cont)=(1,some (Cont.mk 42 4 [eR (Az k y (i+1))] 2));rw[hst];rfl
 .have hie:i=k.S.length:=by have:=aG h;omega
  clear h;subst hie;exact bV
theorem rJ (a:AR):Ret Tryz.prog .shared 251 [.agg (eA a)] (.clo 280 [.dref (eA a) 0]):=by
 obtain⟨az,at'⟩:=a;refine Ret.of_pwp layOk mixed Go.Proofs.Tryz.func251 O Y O O ?_;exact bV
theorem uF (a:AR):Ret Tryz.prog .shared 252 [.agg (eA a)] (.clo 282 [.dref (eA a) 0]):=by
 obtain⟨az,at'⟩:=a;refine Ret.of_pwp layOk mixed Go.Proofs.Tryz.func252 O Y O O ?_;exact bV
def xI (l:List SR)(i:Nat):Rat:=((l.getD i dS).x:Rat)
def eK (a b c:RR):List PV:=eR a++(eR b++eR c)
set_option maxRecDepth 20000 in
theorem rR (l:List SR)(hl:kz l)(hf:tD l)(f:FuncId)(cc:List PV)(g:SR->RR)(κ:Nat->Rat)(hg:∀s∈l,Ret Tryz.prog .shared f [.agg (eS s),.dref cc 0] (.agg (eR (g s))))(hv:∀i,i<l.length->Vq (g (l.getD i dS)) (κ i) 1000) :
  Ret Tryz.prog .shared 254 [.sl (l.map eS),.clo f [.dref cc 0]] (.agg (eK (ofQ (am κ l.length)) (ofQ (am (fun i=>κ i*xI l i) l.length)) (ofQ (am (fun i=>κ i*xI l i*xI l i) l.length)))):=by
 have hw0:=bG 0 ⟨Y,Y⟩;rw[show(((0:Int):Rat))=0 from O]at hw0;have hml:(l.map eS).length=l.length:=ah;have hX:∀i,i<l.length->HQ (xI l i) 4:=fun i hi=>by
  have hx:=(hl.1 _ (br hi)).x;have hx:Zb (l.getD i dS).x:=aK hx.1 hx.2;exact HQ.int
 have hK:∀i,i<l.length->HQ (κ i) 1001:=fun i hi=>(hv i hi).hq;have hC:∀i,i<l.length->HQ (κ i*xI l i) 1005:=fun i hi=>@HQ.mul _ _ 1001 4 (hK i hi) (hX i hi);have hP:∀i,i<l.length->HQ (κ i*xI l i*xI l i) 1009:=fun i hi=>@HQ.mul _ _ 1005 4 (hC i hi) (hX i hi);have h12:=hf.1;generalize hc:(fun i=>κ i*xI l i)=C at *
 generalize hp:(fun i=>κ i*xI l i*xI l i)=Pq at *
 have hCi:∀i,κ i*xI l i=C i:=fun i=>by rw[<-hc]
 have hPi:∀i,C i*xI l i=Pq i:=fun i=>by rw[<-hc,<-hp]
 simp only[hCi,hPi]at hC hP;clear hc hp;refine Ret.of_pwp layOk mixed Go.Proofs.Tryz.func254 O Y O O ?_;refine G hw0 ?_;refine G hw0 ?_;refine G hw0 ?_;refine H ?_;refine ap (fun i:Nat=>i<=l.length) (fun i=>[(1,.clo f [.dref cc 0]),(4,.ptr 4 1 0 0),(5,.ptr 5 1 0 0),(13,.sl (l.map eS)),(14,I l.length),(15,I (i:Nat))])
  (fun i=>[(4,1,⟨308,12,[zN++(zN++zN)],2⟩),(5,1,⟨308,12,[eK (ofQ (am κ i)) (ofQ (am C i)) (ofQ (am Pq i))],2⟩)]) (fun i=>l.length-i) 0 (Nat.zero_le _) ⟨O,O,O,O,by rw[<-hml];rfl,O,O,O,trivial⟩ ?_
 intro i s hi;refine D ?_ ?_<;>intro h
 .have hlt:i<l.length:=by have:=aC h;omega
  clear h;have hx:=bi (d:=dS) hlt;have hxx:=(hl.1 _ (br hlt)).x;have hgx:=hg _ (br hlt);have hvi:=hv i hlt;have hw:=fc i;have hwx:=bG (l.getD i dS).x hxx;rw[show((l.getD i dS).x:Rat)=xI l i from O]at hwx;have vx:Vq (ofQ (xI l i)) (xI l i) 4:=Vq.ofQ (h:=hX i hlt);have v1:Vq (ofQ (am κ i)) (am κ i) (i*(1001+1)+4):=Vq.ofQ (h:=bw i fun k hk=>hK k J);have v2:Vq (ofQ (am C i)) (am C i) (i*(1005+1)+4):=Vq.ofQ (h:=bw i fun k hk=>hC k J);have v3:Vq (ofQ (am Pq i)) (am Pq i) (i*(1009+1)+4):=Vq.ofQ (h:=bw i fun k hk=>hP k J);have w2:Vq (ofQ (C i)) (C i) 1005:=Vq.ofQ (h:=hC i hlt);have w3:Vq (ofQ (Pq i)) (Pq i) 1009:=Vq.ofQ (h:=hP i hlt);have a1:=cJ (ofQ (am κ i)) (g (l.getD i dS)) (hx:=v1) (hy:=hvi) J Y;have m1:=eW (g (l.getD i dS)) (ofQ (xI l i)) (hx:=hvi) (hy:=vx) Y Y;rw[hCi]at m1;have a2:=cJ (ofQ (am C i)) (ofQ (C i)) (hx:=v2) (hy:=w2) J Y;have m2:=eW (ofQ (C i)) (ofQ (xI l i)) (hx:=w2) (hy:=vx) Y Y;rw[hPi]at m2;have a3:=cJ (ofQ (am Pq i)) (ofQ (Pq i)) (hx:=v3) (hy:=w3) J Y;rw[show am κ i+κ i=am κ (i+1) from O]at a1;rw[show am C i+C i=am C (i+1) from O]at a2;rw[show am Pq i+Pq i=am Pq (i+1) from O]at a3;have hout:eK (ofQ (am κ (i+1))) (ofQ (am C (i+1))) (ofQ (am Pq (i+1)))=eK (ofQ (am κ (i+1))) (ofQ (am C (i+1))) (ofQ (am Pq (i+1))):=O;generalize ofQ (am κ i)=K0 at *
  generalize ofQ (am C i)=C0 at *
  generalize ofQ (am Pq i)=P0 at *
  generalize hK1:ofQ (am κ (i+1))=K1 at *
  generalize hC1:ofQ (am C (i+1))=C1 at *
  generalize hP1:ofQ (am Pq (i+1))=P1 at *
  generalize ofQ (xI l i)=XI at *
  generalize ofQ (C i)=CI at *
  generalize ofQ (Pq i)=PI at *
  refine aS hx ?_;refine G hgx ?_;refine G a1 ?_;refine cn 5 [27,28,29,30,31] ?_;refine G hwx ?_;refine G m1 ?_;refine G a2 ?_;refine cn 9 [37,38,39,40,41,42,43,44,45] ?_;refine G hwx ?_;refine G m2 ?_;refine G a3 ?_;refine H ?_;refine⟨i+1,hlt,J,O,O,O,O,O,congrArg I hw,O,?_,trivial⟩;show(_:Nat × Option Cont)=(1,some (Cont.mk 308 12 [eK (ofQ (am κ (i+1))) (ofQ (am C (i+1))) (ofQ (am Pq (i+1)))] 2));rw[hK1,hC1,hP1];rfl
 .have hie:i=l.length:=by have:=aG h;omega
  clear h;subst hie;exact bV
theorem zL (a d:AR){z t:Rat}{n m:Nat}{z' t':Rat}{n' m':Nat}[ha:Va a z t n m][hd:Va d z' t' n' m'](h1:n<=8000000)(h2:m<=8000000)(h3:n'<=8000000)(h4:m'<=8000000):Ret Tryz.prog .shared 256 [.agg (eA a),.agg (eA d)] (.agg (eA ⟨ofQ (z+z'),ofQ (t+t')⟩)):=by
 have a1:=cJ a.z d.z (hx:=ha.z) (hy:=hd.z) J J;have a2:=cJ a.t d.t (hx:=ha.t) (hy:=hd.t) J J;generalize ofQ (z+z')=X at *
 generalize ofQ (t+t')=Y0 at *
 obtain⟨az,at'⟩:=a;obtain⟨dz,dt⟩:=d;try simp only at *
 refine Ret.of_pwp layOk mixed Go.Proofs.Tryz.func256 O Y O O ?_;refine cn 11 [5,6,7,8,9,10,11,12,13,14,15] ?_;refine G a1 ?_;refine G a2 ?_;exact bV
theorem ej {q:Rat}{n:Nat}(h:Vq (ofQ q) q n):HQ q n:=by
 refine⟨?_⟩;obtain⟨_,h1,h2⟩:=h;have e1:=co (ofQ q).n.l;have e2:=co (ofQ q).d.l;rw[show(ofQ q).n.l=ay q.num.natAbs from O]at e1 h1;rw[show(ofQ q).d.l=ay q.den from O]at e2 h2;rw[aR]at e1 e2;exact⟨Nat.lt_of_lt_of_le e1 (da h1),Nat.lt_of_lt_of_le e2 (da h2)⟩
def pq (d:Option (Rat × Rat)):PV:=match d with
 |none => .tup [.agg (zN++zN),.bool false]
 |some d => .tup [.agg (eA ⟨ofQ d.1,ofQ d.2⟩),.bool true]
set_option maxRecDepth 20000 in
theorem AH (kh kc kp fo mo:RR){η c p u v:Rat}{a b:Nat}(hh:Vq kh η a)(hc:Vq kc c a)(hp:Vq kp p a)(hu:Vq fo u b)(hv:Vq mo v b)(ha:a<=20000)(hb:b<=7000000) :
  Ret Tryz.prog .shared 253 [.agg (eK kh kc kp),.agg (eR fo),.agg (eR mo)] (pq (Bd.newt η c p u v)):=by
 have m1:=eW kh kp (hx:=hh) (hy:=hp) J J;have m2:=eW kc kc (hx:=hc) (hy:=hc) J J;have v1:Vq (ofQ (η*p)) (η*p) (a+1+(a+1)):=Vq.ofQ (h:=@HQ.mul _ _ (a+1) (a+1) hh.hq hp.hq);have v2:Vq (ofQ (c*c)) (c*c) (a+1+(a+1)):=Vq.ofQ (h:=@HQ.mul _ _ (a+1) (a+1) hc.hq hc.hq);have s1:=jc (ofQ (η*p)) (ofQ (c*c)) (hx:=v1) (hy:=v2) J J;have v3:Vq (ofQ (η*p-c*c)) (η*p-c*c) (a+1+(a+1)+(a+1+(a+1))+1):=Vq.ofQ (h:=@HQ.sub _ _ _ _ (ej v1) (ej v2));have sg:=pM (ofQ (η*p-c*c)) (hx:=v3) J;have hs0:=gA (η*p-c*c);by_cases h0:η*p-c*c=0
 .have hn:Bd.newt η c p u v=none:=by rw[Bd.newt,if_pos h0]
  rw[hn];have e0:=hs0.2 h0;rw[e0]at sg;generalize ofQ (η*p-c*c)=D0 at *
  generalize ofQ (η*p)=D1 at *
  generalize ofQ (c*c)=D2 at *
  clear hn;refine Ret.of_pwp layOk mixed Go.Proofs.Tryz.func253 O Y O O ?_;refine H ?_;refine aZ 11 1 [11,12,13,14,15,16,17,18,19,20,21,8] [] aT O ?_;refine G m1 ?_;refine G m2 ?_;refine G s1 ?_;refine ar sg ?_;exact bV
 .have hn:Bd.newt η c p u v=some ((p*u-c*v)/(η*p-c*c),(η*v-c*u)/(η*p-c*c)):=by rw[Bd.newt,if_neg h0]
  rw[hn];have m3:=eW kp fo (hx:=hp) (hy:=hu) J J;have m4:=eW kc mo (hx:=hc) (hy:=hv) J J;have m5:=eW kh mo (hx:=hh) (hy:=hv) J J;have m6:=eW kc fo (hx:=hc) (hy:=hu) J J;have w3:Vq (ofQ (p*u)) (p*u) (a+1+(b+1)):=Vq.ofQ (h:=@HQ.mul _ _ (a+1) (b+1) hp.hq hu.hq);have w4:Vq (ofQ (c*v)) (c*v) (a+1+(b+1)):=Vq.ofQ (h:=@HQ.mul _ _ (a+1) (b+1) hc.hq hv.hq);have w5:Vq (ofQ (η*v)) (η*v) (a+1+(b+1)):=Vq.ofQ (h:=@HQ.mul _ _ (a+1) (b+1) hh.hq hv.hq);have w6:Vq (ofQ (c*u)) (c*u) (a+1+(b+1)):=Vq.ofQ (h:=@HQ.mul _ _ (a+1) (b+1) hc.hq hu.hq);have s2:=jc (ofQ (p*u)) (ofQ (c*v)) (hx:=w3) (hy:=w4) J J;have s3:=jc (ofQ (η*v)) (ofQ (c*u)) (hx:=w5) (hy:=w6) J J;have x2:Vq (ofQ (p*u-c*v)) (p*u-c*v) (a+1+(b+1)+(a+1+(b+1))+1):=Vq.ofQ (h:=@HQ.sub _ _ _ _ (ej w3) (ej w4));have x3:Vq (ofQ (η*v-c*u)) (η*v-c*u) (a+1+(b+1)+(a+1+(b+1))+1):=Vq.ofQ (h:=@HQ.sub _ _ _ _ (ej w5) (ej w6));have q2:=uX (ofQ (p*u-c*v)) (ofQ (η*p-c*c)) (hx:=x2) (hy:=v3) J J h0;have q3:=uX (ofQ (η*v-c*u)) (ofQ (η*p-c*c)) (hx:=x3) (hy:=v3) J J h0;have hsn:sgn (η*p-c*c)≠0:=fun e=>h0 (hs0.1 e);simp only[pq];generalize ofQ ((p*u-c*v)/(η*p-c*c))=R1 at *
  generalize ofQ ((η*v-c*u)/(η*p-c*c))=R2 at *
  generalize sgn (η*p-c*c)=gs at *
  generalize ofQ (η*p-c*c)=D0 at *
  generalize ofQ (η*p)=D1 at *
  generalize ofQ (c*c)=D2 at *
  generalize ofQ (p*u-c*v)=D3 at *
  generalize ofQ (η*v-c*u)=D4 at *
  generalize ofQ (p*u)=D5 at *
  generalize ofQ (c*v)=D6 at *
  generalize ofQ (η*v)=D7 at *
  generalize ofQ (c*u)=D8 at *
  clear hn;refine Ret.of_pwp layOk mixed Go.Proofs.Tryz.func253 O Y O O ?_;refine H ?_;refine aZ 11 1 [11,12,13,14,15,16,17,18,19,20,21,8] [] aT O ?_;refine G m1 ?_;refine G m2 ?_;refine G s1 ?_;refine ar sg ?_;refine D ?_ ?_<;>intro h
  .exact absurd (aC h) hsn
  clear h;refine H ?_;refine aZ 9 1 [26,27,28,29,30,31,32,33,34,9] [] aT O ?_;refine G m3 ?_;refine G m4 ?_;refine G s2 ?_;refine H ?_;refine aZ 9 1 [35,36,37,38,39,40,41,42,43,10] [] aT O ?_;refine G m5 ?_;refine G m6 ?_;refine G s3 ?_;refine cn 7 [44,45,46,47,48,49,50] ?_;refine G q2 ?_;refine G q3 ?_;exact bV
def gU (S M:Nat->Rat)(k:Nat):Rat:=M k*(S (k+1)-S k)
theorem uV (S M:Nat->Rat):∀m,ke S M (m+1)=M m*S m-am (gU S M) m
 |0=>by rw[ke,am,am,am,bI];grind
 |m+1=>by
  have:=uV S M m;rw[ke]at this ⊢;rw[am,this,am,bI,gU];grind
theorem yi {S M:Nat->Rat}{n:Nat}(h:bI M n=0):qk n S M=am (gU S M) (n-1):=by
 cases n with
 |zero=>rw[qk,ke,am,am];grind
 |succ m =>
  rw[bI]at h;rw[qk,uV,h,show m+1-1=m by omega];grind
def Fi (c:CR):PV:=if bI c.m c.S.length=0 then .tup [.agg (eR (ofQ (qk c.S.length c.s c.m))),.bool true,I 0] else .tup [.agg zN,.bool false,I 0]
theorem sa {c:CR}(hc:c.Lim)(k:Nat):HQ (gU c.s c.m k) (13+(4+4+1)):=by
 have h1:=nJ hc k;have h2:=nJ hc (k+1);have z1:Zb (c.S.getD k 0):=aK h1.1 h1.2;have z2:Zb (c.S.getD (k+1) 0):=aK h2.1 h2.2;exact @HQ.mul _ _ 13 9 (uK c hc k).hq (@HQ.sub _ _ 4 4 HQ.int HQ.int)
set_option maxRecDepth 20000 in
theorem sd (c:CR)(hc:c.Lim)(h0:cN c=0):Ret Tryz.prog .shared 274 [.agg (eC c)] (Fi c):=by
 have hcc:=eJ c hc;rw[h0]at hcc;obtain⟨h40,hSM,hrange,-⟩:=eM h0;have hz:=fi 0 Y Y;rw[show(((0:Int):Rat))=0 from O]at hz;have hSl:(c.S.map eN).length=c.S.length:=ah;generalize hR:Fi c=R;rw[Fi]at hR;refine Ret.of_pwp layOk mixed Go.Proofs.Tryz.func274 O Y O O ?_;refine ar hcc ?_;refine G hz ?_;refine H ?_;refine ap (fun i:Nat=>i<=c.S.length/\(i=c.S.length->bI c.m c.S.length=0)) (fun i=>[(1,.ptr 1 1 0 0),(2,.ptr 2 1 0 0),(6,.ptr 6 1 0 0),(17,.sl (c.S.map eN)),(18,I c.S.length),(19,I (i:Nat))])
  (fun i=>[(1,1,⟨134,2,[eC c],2⟩),(2,1,⟨42,4,[zN],2⟩),(6,1,⟨42,4,[eR (ofQ (am (gU c.s c.m) (min i (c.S.length-1))))],2⟩)]) (fun i=>c.S.length-i) 0 ⟨Nat.zero_le _,fun h=>by rw[<-h];rfl⟩ ⟨O,O,O,O,by rw[<-hSl];rfl,O,O,O,?_,trivial⟩ ?_
 .show(_:Nat × Option Cont)=(1,some (Cont.mk 42 4 [eR (ofQ (am (gU c.s c.m) (min 0 (c.S.length-1))))] 2));rw[Nat.zero_min];rfl
 intro i s ⟨hi,hlast⟩;refine D ?_ ?_<;>intro h
 .have hlt:i<c.S.length:=by have:=aC h;omega
  clear h;have hx:=bi (d:=0) hlt;have hmx:=bi (l:=c.M) (i:=i) (d:=RR.zero) J;have hw:=fc i;by_cases hn:i+1<c.S.length
  .have hy:=bi (d:=0) hn;have r1:=(hrange i hlt);have r2:=(hrange (i+1) hn);have hd:IntKind.i64.wrap (c.S.getD (i+1) 0-c.S.getD i 0)=c.S.getD (i+1) 0-c.S.getD i 0:=wrap_i64 J J;have hnum:=fi (c.S.getD (i+1) 0-c.S.getD i 0) J J;have ed:((c.S.getD (i+1) 0-c.S.getD i 0:Int):Rat)=c.s (i+1)-c.s i:=by rw[CR.s,CR.s];push_cast;rfl
   rw[ed]at hnum;have z1:Zb (c.S.getD i 0):=aK J J;have z2:Zb (c.S.getD (i+1) 0):=aK J J;have v1:Vq (ofQ (c.s (i+1)-c.s i)) (c.s (i+1)-c.s i) 9:=Vq.ofQ (h:=@HQ.sub _ _ 4 4 HQ.int HQ.int);have m1:=eW (c.M.getD i RR.zero) (ofQ (c.s (i+1)-c.s i)) (hx:=uK c hc i) (hy:=v1) Y Y;have v2:Vq (ofQ (am (gU c.s c.m) i)) (am (gU c.s c.m) i) (i*(13+(4+4+1)+1)+4):=Vq.ofQ (h:=bw i fun k _=>sa hc k);have v3:Vq (ofQ (gU c.s c.m i)) (gU c.s c.m i) (13+(4+4+1)):=Vq.ofQ (h:=sa hc i);rw[show c.m i*(c.s (i+1)-c.s i)=gU c.s c.m i from O]at m1;have a1:=cJ (ofQ (am (gU c.s c.m) i)) (ofQ (gU c.s c.m i)) (hx:=v2) (hy:=v3) J Y;rw[show am (gU c.s c.m) i+gU c.s c.m i=am (gU c.s c.m) (i+1) from O]at a1;rw[show min i (c.S.length-1)=i by omega];generalize ofQ (am (gU c.s c.m) i)=K0 at *
   generalize hK1:ofQ (am (gU c.s c.m) (i+1))=K1 at *
   generalize ofQ (gU c.s c.m i)=T0 at *
   generalize ofQ (c.s (i+1)-c.s i)=D0 at *
   refine aS hx ?_;refine H ?_;rw[hw];refine bP O ?_ ?_<;>intro h
   .clear h;refine cn 17 [30,31,32,33,34,35,36,37,38,39,40,41,42,43,44,45,46] ?_;refine aS hmx ?_;refine H ?_;rw[hw];refine Gj O O O O O O O hy O ?_;refine H ?_;rw[hd];refine nR O O O hnum O O ?_;refine G m1 ?_;refine G a1 ?_;refine H ?_;refine⟨i+1,⟨J,fun h=>by omega⟩,J,O,O,O,O,O,congrArg I hw,O,O,?_,trivial⟩;show(_:Nat × Option Cont)=(1,some (Cont.mk 42 4 [eR (ofQ (am (gU c.s c.m) (min (i+1) (c.S.length-1))))] 2));rw[show min (i+1) (c.S.length-1)=i+1 by omega,hK1];rfl
   .have:=aG h;exfalso;omega
  .have hie:i+1=c.S.length:=J;have hiz:=yB (c.M.getD i RR.zero) (hx:=uK c hc i) Y;have hbf:bI c.m c.S.length=c.m i:=by rw[<-hie];rfl
   rw[show min i (c.S.length-1)=i by omega];by_cases hm:c.m i=0
   .rw[decide_eq_true hm]at hiz;refine aS hx ?_;refine H ?_;rw[hw];refine bP O ?_ ?_<;>intro h
    .have:=aC h;exfalso;omega
    .clear h;refine aS hmx ?_;refine ar hiz ?_;refine H ?_;refine⟨i+1,⟨J,fun _=>by rw[hbf];exact hm⟩,J,O,O,O,O,O,congrArg I hw,O,O,?_,trivial⟩;show(_:Nat × Option Cont)=(1,some (Cont.mk 42 4 [eR (ofQ (am (gU c.s c.m) (min (i+1) (c.S.length-1))))] 2));rw[show min (i+1) (c.S.length-1)=i by omega];rfl
   .rw[decide_eq_false hm]at hiz;rw[if_neg (by rw[hbf];exact hm)]at hR;subst hR;refine aS hx ?_;refine H ?_;rw[hw];refine bP O ?_ ?_<;>intro h
    .have:=aC h;exfalso;omega
    .clear h;refine aS hmx ?_;refine ar hiz ?_;exact bV
 .have hie:i=c.S.length:=by have:=aG h;omega
  clear h;have hb:=hlast hie;rw[if_pos hb,yi hb]at hR;subst hR;rw[show min i (c.S.length-1)=c.S.length-1 by omega];exact bV
theorem wK (w:Int)(hw:i64 w)(x:RR)(r:AR){p A B:Rat}{k n m:Nat}(hx:Vq x p k)(hr:Va r A B n m)(h1:k<=1000000)(h2:n<=1000000)(h3:m<=1000000):Ret Tryz.prog .shared 247 [I w,.agg (eR x),.agg (eA r)] (.agg (eR (ofQ ((w:Rat)*(A+B*p))))):=by
 have zw:Zb w:=aK hw.1 hw.2;have d1:=bG w hw;have d2:=eW r.t x (hx:=hr.t) (hy:=hx) J J;have v2:Vq (ofQ (B*p)) (B*p) (m+1+(k+1)):=Vq.ofQ (h:=@HQ.mul _ _ (m+1) (k+1) hr.t.hq hx.hq);have d3:=cJ r.z (ofQ (B*p)) (hx:=hr.z) (hy:=v2) J J;have v3:Vq (ofQ (A+B*p)) (A+B*p) (n+1+(m+1+(k+1))+1):=Vq.ofQ (h:=@HQ.add _ _ (n+1) _ hr.z.hq (ej v2));have d4:=eW (ofQ (w:Rat)) (ofQ (A+B*p)) (hy:=v3) Y J;generalize ofQ ((w:Rat)*(A+B*p))=X4 at *
 generalize ofQ (A+B*p)=X3 at *
 generalize ofQ (B*p)=X2 at *
 generalize ofQ (w:Rat)=X1 at *
 obtain⟨az,at'⟩:=r;try simp only at *
 refine Ret.of_pwp layOk mixed Go.Proofs.Tryz.func247 O Y O O ?_;refine cn 10 [7,8,9,10,11,12,13,14,15,16] ?_;refine G d1 ?_;refine G d2 ?_;refine G d3 ?_;refine G d4 ?_;exact bV
def cI (l:List SR)(i:Nat):Rat:=qk (l.getD i dS).k.S.length (l.getD i dS).k.s (l.getD i dS).k.m
def It (l:List SR)(i:Nat):Prop:=bI (l.getD i dS).k.m (l.getD i dS).k.S.length=0
def yT (l:List SR)(A B:Rat)(i:Nat):Rat:=if 0<A+B*xI l i then cI l i*(A+B*xI l i) else 0
def jd (l:List SR)(A B:Rat)(n:Nat):Prop:=∀i,i<n->0<A+B*xI l i->It l i
noncomputable def Hb (l:List SR)(A B:Rat):PV:=@ite _ (jd l A B l.length) (Classical.propDecidable _) (.tup [.agg (eR (ofQ (am (yT l A B) l.length))),.bool true]) (.tup [.agg zN,.bool false])
theorem Ck {c:CR}(hc:c.Lim)(h8:c.S.length<=8)(h0:bI c.m c.S.length=0):HQ (qk c.S.length c.s c.m) 200:=by
 rw[yi h0];exact(bw (c.S.length-1) fun k _=>sa hc k).mono J
theorem HU {l:List SR}(hl:kz l)(hf:tD l){A B:Rat}{n m:Nat}(hA:HQ A n)(hB:HQ B m){i:Nat}(hi:i<l.length)(ha:0<A+B*xI l i->It l i):HQ (yT l A B i) (200+(n+(m+4)+1)):=by
 rw[yT];split
 .rename_i h;have hx:=(hl.1 _ (br hi)).x;have hx:Zb (l.getD i dS).x:=aK hx.1 hx.2;exact @HQ.mul _ _ 200 (n+(m+4)+1) (Ck (hl.1 _ (br hi)).k (hf.2 _ (br hi)) (ha h)) (@HQ.add _ _ n (m+4) hA (@HQ.mul _ _ m 4 hB HQ.int))
 .exact HQ.zero.mono J
set_option maxRecDepth 20000 in
theorem BE (l:List SR)(hl:kz l)(hf:tD l)(hck:cH l=0)(r:AR){A B:Rat}{n m:Nat}(hr:Va r A B n m)(h2:n<=100000)(h3:m<=100000):Ret Tryz.prog .shared 246 [.sl (l.map eS),.agg (eA r)] (Hb l A B):=by
 have hw0:=bG 0 ⟨Y,Y⟩;rw[show(((0:Int):Rat))=0 from O]at hw0;have hml:(l.map eS).length=l.length:=ah;have hz:=hr.z.hq;have ht:=hr.t.hq;have h12:=hf.1;generalize hR:Hb l A B=R;rw[Hb]at hR;obtain⟨rz,rt⟩:=r;have hrz:=hr.z;have hrt:=hr.t;simp only at hrz hrt;refine Ret.of_pwp layOk mixed Go.Proofs.Tryz.func246 O Y O O ?_;refine G hw0 ?_;refine H ?_;refine ap (fun i:Nat=>i<=l.length/\jd l A B i) (fun i=>[(3,.ptr 3 1 0 0),(4,.ptr 4 1 0 0),(6,.ptr 6 1 0 0),(14,.sl (l.map eS)),(15,I l.length),(16,I (i:Nat))])
  (fun i=>[(3,1,⟨71,8,[eA ⟨rz,rt⟩],2⟩),(4,1,⟨42,4,[zN],2⟩),(6,1,⟨42,4,[eR (ofQ (am (yT l A B) i))],2⟩)]) (fun i=>l.length-i) 0 ⟨Nat.zero_le _,fun i hi=>by omega⟩ ⟨O,O,O,O,by rw[<-hml];rfl,O,O,O,O,trivial⟩ ?_
 intro i s ⟨hi,hall⟩;refine D ?_ ?_<;>intro h
 .have hlt:i<l.length:=by have:=aC h;omega
  clear h;have hx:=bi (d:=dS) hlt;have hsl:=hl.1 _ (br hlt);have h8:=hf.2 _ (br hlt);have hkc:=cY hck _ (br hlt);have hxx:=hsl.x;have hzb:Zb (l.getD i dS).x:=aK hxx.1 hxx.2;have hw:=fc i;have e1:=bG (l.getD i dS).x hxx;rw[show((l.getD i dS).x:Rat)=xI l i from O]at e1;have vx:Vq (ofQ (xI l i)) (xI l i) 4:=Vq.ofQ (h:=HQ.int);have e2:=eW rt (ofQ (xI l i)) (hx:=hrt) (hy:=vx) J Y;have v2:Vq (ofQ (B*xI l i)) (B*xI l i) (m+1+4):=Vq.ofQ (h:=@HQ.mul _ _ (m+1) 4 ht HQ.int);have e3:=cJ rz (ofQ (B*xI l i)) (hx:=hrz) (hy:=v2) J J;have v3:Vq (ofQ (A+B*xI l i)) (A+B*xI l i) (n+1+(m+1+4)+1):=Vq.ofQ (h:=@HQ.add _ _ (n+1) _ hz (ej v2));have e4:=pM (ofQ (A+B*xI l i)) (hx:=v3) J;have hsg:=pI (A+B*xI l i);by_cases hd:0<A+B*xI l i
  .have hsn:¬sgn (A+B*xI l i)<=0:=fun h=>by have:=hsg.1 h;grind
   have e5:=sd (l.getD i dS).k hsl.k hkc;rw[Fi]at e5;generalize sgn (A+B*xI l i)=g at *
   by_cases hlim:It l i
   .rw[if_pos (show bI (l.getD i dS).k.m (l.getD i dS).k.S.length=0 from hlim)]at e5;have hcl:=Ck hsl.k h8 hlim;rw[show qk (l.getD i dS).k.S.length (l.getD i dS).k.s (l.getD i dS).k.m=cI l i from O]at e5 hcl;have vc:Vq (ofQ (cI l i)) (cI l i) 200:=Vq.ofQ (h:=hcl);have e6:=eW (ofQ (cI l i)) (ofQ (A+B*xI l i)) (hx:=vc) (hy:=v3) Y J;have hall':jd l A B (i+1):=fun j hj hp=>by
     by_cases hje:j=i
     .subst hje;exact hlim
     .exact hall j J hp
    have v6:Vq (ofQ (cI l i*(A+B*xI l i))) (cI l i*(A+B*xI l i)) (200+(n+1+(m+1+4)+1)):=Vq.ofQ (h:=@HQ.mul _ _ 200 _ hcl (ej v3));have v7:Vq (ofQ (am (yT l A B) i)) (am (yT l A B) i) (i*(200+(n+1+(m+1+4)+1)+1)+4):=Vq.ofQ (h:=bw i fun k hk=>HU hl hf hz ht J (hall k hk));have e7:=cJ (ofQ (am (yT l A B) i)) (ofQ (cI l i*(A+B*xI l i))) (hx:=v7) (hy:=v6) (by have:=Nat.mul_le_mul (show i<=12 by omega) (show 200+(n+1+(m+1+4)+1)+1<=200208 by omega);omega) J;rw[show am (yT l A B) i+cI l i*(A+B*xI l i)=am (yT l A B) (i+1) by rw[am,yT,if_pos hd]]at e7;generalize ofQ (am (yT l A B) i)=K0 at *
    generalize hK1:ofQ (am (yT l A B) (i+1))=K1 at *
    generalize ofQ (cI l i*(A+B*xI l i))=P0 at *
    generalize ofQ (cI l i)=C0 at *
    generalize ofQ (A+B*xI l i)=D0 at *
    generalize ofQ (B*xI l i)=D1 at *
    generalize ofQ (xI l i)=D2 at *
    refine aS hx ?_
    (repeat ((fail_if_success (with_reducible refine aQ 5 ?_));refine cx O ?_))
    refine aE (fM 9) ?_;refine aZ 9 1 [20,21,22,23,24,25,26,27,28,9] [] aT O ?_;refine G e1 ?_;refine G e2 ?_;refine G e3 ?_;refine ar e4 ?_;refine D ?_ ?_<;>intro h
    .exact absurd (aC h) hsn
    clear h;refine G e5 ?_;refine cn 5 [42,43,44,45,46] ?_;refine G e6 ?_;refine G e7 ?_;refine H ?_;refine⟨i+1,⟨J,hall'⟩,J,O,O,O,O,O,congrArg I hw,O,O,?_,trivial⟩;show(_:Nat × Option Cont)=(1,some (Cont.mk 42 4 [eR (ofQ (am (yT l A B) (i+1)))] 2));rw[hK1];rfl
   .rw[if_neg (show ¬bI (l.getD i dS).k.m (l.getD i dS).k.S.length=0 from hlim)]at e5;rw[if_neg (fun h=>hlim (h i hlt hd))]at hR;subst hR;generalize ofQ (A+B*xI l i)=D0 at *
    generalize ofQ (B*xI l i)=D1 at *
    generalize ofQ (xI l i)=D2 at *
    refine aS hx ?_
    (repeat ((fail_if_success (with_reducible refine aQ 5 ?_));refine cx O ?_))
    refine aE (fM 9) ?_;refine aZ 9 1 [20,21,22,23,24,25,26,27,28,9] [] aT O ?_;refine G e1 ?_;refine G e2 ?_;refine G e3 ?_;refine ar e4 ?_;refine D ?_ ?_<;>intro h
    .exact absurd (aC h) hsn
    clear h;refine G e5 ?_;exact bV
  .have hsn:sgn (A+B*xI l i)<=0:=hsg.2 aW;have hall':jd l A B (i+1):=fun j hj hp=>by
    by_cases hje:j=i
    .subst hje;exact absurd hp hd
    .exact hall j J hp
   have hsum:am (yT l A B) (i+1)=am (yT l A B) i:=by rw[am,yT,if_neg hd];grind
   generalize sgn (A+B*xI l i)=g at *
   generalize ofQ (A+B*xI l i)=D0 at *
   generalize ofQ (B*xI l i)=D1 at *
   generalize ofQ (xI l i)=D2 at *
   refine aS hx ?_
   (repeat ((fail_if_success (with_reducible refine aQ 5 ?_));refine cx O ?_))
   refine aE (fM 9) ?_;refine aZ 9 1 [20,21,22,23,24,25,26,27,28,9] [] aT O ?_;refine G e1 ?_;refine G e2 ?_;refine G e3 ?_;refine ar e4 ?_;refine D ?_ ?_<;>intro h
   .clear h;refine H ?_;refine⟨i+1,⟨J,hall'⟩,J,O,O,O,O,O,congrArg I hw,O,O,?_,trivial⟩;show(_:Nat × Option Cont)=(1,some (Cont.mk 42 4 [eR (ofQ (am (yT l A B) (i+1)))] 2));rw[hsum];rfl
   .exact absurd hsn (aG h)
 .have hie:i=l.length:=by have:=aG h;omega
  clear h;subst hie;rw[if_pos hall]at hR;subst hR;exact bV
noncomputable def mV (b:BR)(A B:Rat):Bool:=@decide (jd b.l A B b.l.length/\am (yT b.l A B) b.l.length<(b.w:Rat)*(A+B*b.a.val)) (Classical.propDecidable _)
set_option maxRecDepth 20000 in
theorem nH (b:BR)(hb:b.Ok)(r:AR){A B:Rat}{n m:Nat}(hr:Va r A B n m)(h2:n<=90000)(h3:m<=90000):Ret Tryz.prog .shared 200 [.agg (eB b),.agg (eA r)] (.bool (mV b A B)):=by
 have h1:=BE b.l hb.lim.l hb.few hb.chkL r hr J J;have zw:Zb b.w:=aK hb.lim.w.1 hb.lim.w.2;have hd:=wK b.w hb.lim.w b.a r hb.lim.a.v hr Y J J;have vd:Vq (ofQ ((b.w:Rat)*(A+B*b.a.val))) ((b.w:Rat)*(A+B*b.a.val)) (4+(n+1+(m+1+13)+1)):=Vq.ofQ (h:=@HQ.mul _ _ 4 _ HQ.int (@HQ.add _ _ (n+1) _ hr.z.hq (@HQ.mul _ _ (m+1) 13 hr.t.hq hb.lim.a.v.hq)));rw[Hb]at h1;by_cases hall:jd b.l A B b.l.length
 .rw[if_pos hall]at h1;have h12:=hb.few.1;have hs:=bw (m:=200+(n+1+(m+1+4)+1)) b.l.length fun k hk=>HU hb.lim.l hb.few hr.z.hq hr.t.hq hk (hall k hk);have vs:Vq (ofQ (am (yT b.l A B) b.l.length)) (am (yT b.l A B) b.l.length) (b.l.length*(200+(n+1+(m+1+4)+1)+1)+4):=Vq.ofQ (h:=hs);have hc:=i9 (ofQ (am (yT b.l A B) b.l.length)) (ofQ ((b.w:Rat)*(A+B*b.a.val))) (hx:=vs) (hy:=vd) (by have:=Nat.mul_le_mul (show b.l.length<=12 by omega) (show 200+(n+1+(m+1+4)+1)+1<=180210 by omega);omega) J;have hsl:=cP (am (yT b.l A B) b.l.length-(b.w:Rat)*(A+B*b.a.val));have key:mV b A B=decide (sgn (am (yT b.l A B) b.l.length-(b.w:Rat)*(A+B*b.a.val))<0):=by
   rw[mV,decide_eq_decide,hsl];constructor
   .intro h;have:=h.2;grind
   .intro h;exact⟨hall,aW⟩
  rw[key];generalize sgn (am (yT b.l A B) b.l.length-(b.w:Rat)*(A+B*b.a.val))=g at *
  generalize ofQ (am (yT b.l A B) b.l.length)=S at *
  generalize ofQ ((b.w:Rat)*(A+B*b.a.val))=D0 at *
  obtain⟨w,ba,l⟩:=b;obtain⟨rz,rt⟩:=r;try simp only at *
  refine Ret.of_pwp layOk mixed Go.Proofs.Tryz.func200 O Y O O ?_;refine G h1 ?_;refine cn 13 [14,15,16,17,18,19,20,21,22,23,24,25,4] ?_;refine G hd ?_;refine ar hc ?_;exact gV
 .rw[if_neg hall]at h1;have key:mV b A B=false:=by
   unfold mV;exact @decide_eq_false _ (Classical.propDecidable _) (fun h=>hall h.1)
  rw[key];clear hd vd;obtain⟨w,ba,l⟩:=b;obtain⟨rz,rt⟩:=r;try simp only at *
  refine Ret.of_pwp layOk mixed Go.Proofs.Tryz.func200 O Y O O ?_;refine G h1 ?_;refine cn 13 [14,15,16,17,18,19,20,21,22,23,24,25,4] ?_;exact gV
end Go.Pv
namespace Go.Pv
open Go.RowKit Go.Sort
section
variable {P:Program}{L:Lay}{C:Ctx}{γ:Nat->Option Nat}{s:St}{a:Act}{w w':World}
structure Chg (w w':World) (b:Nat) (T:TypeId) (cur:Array Value):Prop where
 os:w'.os=w.os
 tape:w'.tape=w.tape
 output:w'.output=w.output
 size:w.heap.size<=w'.heap.size
 other:∀b',b'≠b->b'<w.heap.size->w'.heap[b']? = w.heap[b']?
 at_:w'.heap[b]? = some (.cells cur T (0,0))
theorem Fj (h:Sim C γ s a w){k g b:Nat}{c c':Cont}{cur cur':Array Value}(ho:s.own k=(g,some c))(hb:γ k=some b)(hh:w.heap[b]? = some (.cells cur c.ty (0,0)))(hsz:cur'.size=cur.size)
  (hc:Chg w w' b c.ty cur') (h1:c'.ty=c.ty) (h2:c'.sz=c.sz) (h3:c.rows.length<=c'.rows.length) (hs:SiteOk (ao C γ (s.setOwn k g (some c')) (w.setRow b cur')) (some b) c'):Sim C γ (s.setOwn k g (some c')) a w':=by
 refine(rS h ho hb hh hsz h1 h2 h3 hs).ext ⟨hc.os,hc.tape,hc.output,by simpa using hc.size,fun b' hb'=>?_⟩;have hb'':b'<w.heap.size:=by simpa using hb'
 by_cases he:b'=b
 .subst he;rw[hc.at_,setRow_heap w b' cur cur' c.ty (0,0) hh]
 .rw[hc.other b' he hb'',setRow_other w b b' cur' he]
theorem yj {α:Type}[Inhabited α]{e:α->Value}{q b:Nat}{d':Array α}{os:Array Obj}{T:TypeId}{cur:Array Value}(hh:w.heap[b]? = some (.cells cur T (0,0)))(hw:w'=grow (putRow e (Sort.ahead w q) b 0 d') os):Chg w w' b T (putCells e 0 d' cur):=by
 have hlt:b<w.heap.size:=(cD hh).1;subst hw;refine⟨O,O,O,ah,fun b' hne hb'=>?_,?_⟩
 .rw[heap_grow_old _ _ (by simpa using hb')];show(w.heap.modify b _)[b']? = _;rw[Array.getElem?_modify,if_neg (Ne.symm hne)]
 .rw[heap_grow_old _ _ (by simpa using hlt)];show(w.heap.modify b _)[b]? = _;rw[Array.getElem?_modify,if_pos O,hh];rfl
theorem ku {α:Type}[Inhabited α](e:α->Value)(off:Nat)(d:Array α)(c:Array Value):(putCells e off d c).size=c.size:=by simp[putCells]
theorem kw {α:Type}[Inhabited α](e:α->Value)(d:Array α)(c:Array Value)(h:d.size<=c.size):(putCells e 0 d c).toList.take d.size=d.toList.map e:=by
 apply List.ext_getElem
 .simp[putCells];omega
 intro i h1 h2;have hi:i<d.size:=by simpa using h2
 simp[putCells,hi]
theorem xe {E:Env}{k:Nat}{c:PV}(h:jv c=true):KRep E k c (scv c):=by
 match k with
 |0=>exact(gw h _ _).1
 |1=>exact(gw h _ _).1
 |_+2=>exact .d (gw h _ _).1
def i5 {α:Type}(enc:α->List PV)(l:List α):List Value:=l.flatMap fun x=>(enc x).map scv
theorem Ag {α:Type}{enc:α->List PV}{sz:Nat}(h:∀x,(enc x).length=sz)(l:List α):(i5 enc l).length=l.length*sz:=by
 induction l with
 |nil=>simp[i5]
 |cons x l ih=>simp only[i5,List.flatMap_cons,List.length_append,List.length_map,List.length_cons,h,Nat.add_mul,Nat.one_mul]at ih ⊢;omega
theorem lO {α:Type}{enc:α->List PV}{sz:Nat}(h:∀x,(enc x).length=sz):∀(l:List α) (i j:Nat) (x:α) (c:PV),l[i]? = some x->(enc x)[j]? = some c->(i5 enc l)[i*sz+j]? = some (scv c)
 |[],i,j,x,c,h1,_=>by simp at h1
 |y::l,0,j,x,c,h1,h2=>by
  simp at h1;subst h1;have hj:=(bb h2).1;rw[i5,List.flatMap_cons,List.getElem?_append_left aU,List.getElem?_map,Nat.zero_mul,Nat.zero_add,h2];rfl
 |y::l,i+1,j,x,c,h1,h2=>by
  have ih:=lO h l i j x c (by simpa using h1) h2;rw[i5,List.flatMap_cons,List.getElem?_append_right (by rw[List.length_map,h,Nat.add_mul];omega),List.length_map,h];rw[show(i+1)*sz+j-sz=i*sz+j by rw[Nat.add_mul];omega];exact ih
theorem zk {l m:List Value}{n i:Nat}{v:Value}(h:l.take n=m)(hi:m[i]? = some v):l[i]? = some v:=by
 rw[<-h,List.getElem?_take]at hi;split at hi
 .exact hi
 .cases hi
def KQ (ro:Option Nat)(a:Option Addr)(cap:Nat):Value:=match ro with
 |none => .tuple #[]
 |some n => .slice a n cap
def Lk (ro:Option Nat)(k g:Nat):PV:=match ro with
 |none => .tup []
 |some n => .als k g 0 n
variable [Globs]
theorem pO {α:Type}{enc:α->List PV}{l:List α}{d k g m sz kd f:Nat}{T ty:TypeId}{pos:String}{af:Array Edge}{x fop:Operand}{more:List Operand}{mv:List FuncId}{tys:Array TypeId}{K:St->Prop}(ro:Option Nat)(Q:List α->Prop)
  (hpl:∀x,(enc x).all jv=true) (hlen:∀x,(enc x).length=sz) (hsz:0<sz) (hf:s.ev fop = .clo f []) (hx:s.ev x = .als k g 0 m) (hm:m=l.length) (ho:s.own k=(g,some ⟨T,sz,l.map enc,kd⟩)) (hmore:more.map s.ev=mv.map fun f => .clo f []) (hcal:fu P f) (hro:∀n,ro=some n->n<=l.length)
  (h0:l=[]->Q []/\∀w:World,Globs.glob w->Calls P f (Value.slice none 0 0::mv.map fun f => .func (.func f) #[] #[]).toArray w fun e w'=>e = .returned (KQ ro none 0)/\Below w.heap.size w w')
  (hcall:∀(w:World) (b cap:Nat) (cur:Array Value),w.heap[b]? = some (.cells cur T (0,0))->l.length<=cap->l.length*sz<=cur.size->cur.toList.take (l.length*sz)=i5 enc l->Globs.glob w ->
   Calls P f (Value.slice (some ⟨b,0,none⟩) l.length cap::mv.map fun f => .func (.func f) #[] #[]).toArray w fun e w'=>∃l' cur',Q l'/\l'.length=l.length/\e = .returned (KQ ro (some ⟨b,0,none⟩) cap)/\Chg w w' b T cur'/\cur'.size=cur.size/\cur'.toList.take (l.length*sz)=i5 enc l')
  (h:∀l',Q l'->l'.length=l.length->K ((s.setOwn k g (some ⟨T,sz,l'.map enc,kd⟩)).putR d (Lk ro k g))):Sm P L s ⟨some d,.call ⟨.value fop,(x::more).toArray,tys⟩,ty,pos,af,none⟩ K:=by
 intro C a w Qp hG hs hN;obtain⟨γ,hs⟩:=hs;have hfv:=hs.ev fop;rw[hf]at hfv;obtain⟨vs,hv,hl,_⟩:=hfv.clo_inv;have hvs:vs=[]:=List.eq_nil_of_length_eq_zero (by simpa using hl.symm);subst hvs;have hmv:more.map a.eval=mv.map fun f=>Value.func (.func f) #[] #[]:=by
  clear h0 hcall h
  induction more generalizing mv with
  |nil=>cases mv with
   |nil=>rfl
   |cons f mv=>simp at hmore
  |cons y more ih=>cases mv with
   |nil=>simp at hmore
   |cons f mv =>
    simp only[List.map_cons,List.cons.injEq]at hmore ⊢;have hy:=hs.ev y;rw[hmore.1]at hy;obtain⟨vs,hv,hl,_⟩:=hy.clo_inv;have hvs:vs=[]:=List.eq_nil_of_length_eq_zero (by simpa using hl.symm);subst hvs;exact⟨hv,ih hmore.2 hN⟩
 have hxr:=hs.ev x;rw[hx]at hxr;have hals:=hs.als_at hxr ho;unfold Oper.wp;rw[jC (f:=f) O hv hcal,Oper.upon_enter];simp only[List.map_cons,List.append_nil,hmv];have hglob:=hG.glob _ hs.below;rcases hals with⟨h1,_,h3,h4⟩|⟨b,cap,cur,h1,h2,h3,h4,h5,h6,h7⟩
 .have hnil:l=[]:=List.eq_nil_of_length_eq_zero J;rw[h4];refine((h0 hnil).2 w hglob).mono ?_;rintro e w' ⟨rfl,hbel⟩;have hs':=hs.ext hbel;have hst:s=s.setOwn k g (some ⟨T,sz,l.map enc,kd⟩):=by
   have:s.own=(s.setOwn k g (some ⟨T,sz,l.map enc,kd⟩)).own:=by
    funext r;by_cases hr:r=k
    .subst hr;rw[ak,ho]
    .rw[aF hr]
   cases s;simp only[St.setOwn]at this ⊢;rw[<-this]
  have hKs:=h [] (h0 hnil).1 (by rw[hnil]);rw[hnil]at hst;rw[<-hst]at hKs;refine⟨_,⟨γ,hs'.put (d:=some d) hN ?_⟩,hKs⟩;cases ro with
  |none=>exact .tup [] [] rfl fun i c v e=>by simp at e
  |some n =>
   have hn:=hro n O;rw[hnil]at hn;have hn0:n=0:=by simpa using hn
   subst hn0;refine .als (by simp[ao,ho]) fun _ l2 hl2=>?_;simp only[ao,ho,Option.map_some,Option.some.injEq]at hl2;subst hl2;exact .inl ⟨h1,O,O,O⟩
 .subst hm;rw[h2];simp only[Nat.zero_mul];have h3:w.heap[b]? = some (.cells cur T (0,0)):=h3;have hz:(0+cap)*sz=cap*sz:=by rw[Nat.zero_add]
  have hcs:cur.size=cap*sz:=by rw[<-hz];exact h6
  have hle:l.length*sz<=cur.size:=by rw[hcs];exact Nat.mul_le_mul_right _ h4
  obtain⟨cur0,g1,_,_,g4,g5⟩:=hs.site_at ho h1 hsz;have g1:w.heap[b]? = some (.cells cur0 T (0,0)):=g1;rw[h3]at g1;simp only[Option.some.injEq,Obj.cells.injEq,and_true]at g1;subst g1;have hflat:cur.toList.take (l.length*sz)=i5 enc l:=by
   apply List.ext_getElem?;intro q;by_cases hq:q<l.length*sz
   .have hqi:q/sz<l.length:=(Nat.div_lt_iff_lt_mul hsz).2 hq;have hqj:q%sz<sz:=Nat.mod_lt _ hsz;have hqe:q/sz*sz+q%sz=q:=by rw[Nat.mul_comm];exact Nat.div_add_mod q sz
    have hx1:l[q/sz]? = some l[q/sz]:=List.getElem?_eq_getElem hqi;have hx2:(enc l[q/sz])[q%sz]? = some ((enc l[q/sz])[q%sz]'(by rw[hlen];exact hqj)):=List.getElem?_eq_getElem _;obtain⟨v,e1,_,e3⟩:=g5 (q/sz) (q%sz) (enc l[q/sz]) _ (by rw[List.getElem?_map,hx1];rfl) hx2;have hpv:=List.all_eq_true.1 (hpl l[q/sz]) _ (bc hx2);have hv:=rA hpv (e3.rep ax);have:=lO hlen l (q/sz) (q%sz) _ _ hx1 hx2;rw[hqe]at this e1;rw[this,List.getElem?_take,if_pos hq,Array.getElem?_toList,e1,hv]
   .rw[List.getElem?_take,if_neg hq,List.getElem?_eq_none (by rw[Ag hlen];omega)]
  refine(hcall w b cap cur h3 h4 hle hflat hglob).mono ?_;rintro e w' ⟨l',cur',hQ,hl',rfl,hchg,hcz,hfl⟩;have hsite:SiteOk (ao C γ (s.setOwn k g (some ⟨T,sz,l'.map enc,kd⟩)) (w.setRow b cur')) (some b) ⟨T,sz,l'.map enc,kd⟩:=by
   refine⟨(fun e=>by cases e),(fun b' _ hz=>by simp only at hz;omega),(fun b' _ hz=>by simp only at hz;omega),fun b' hb' _=>?_⟩;simp at hb';subst hb';refine⟨cur',setRow_heap w b cur cur' T (0,0) h3,hsz,by simp only[List.length_map];rw[hl',hcz];exact hle,fun row hr=>?_,fun i j row pv e1 e2=>?_⟩
   .simp only[List.mem_map]at hr;obtain⟨y,_,rfl⟩:=hr;exact hlen y
   .simp only[List.getElem?_map,Option.map_eq_some_iff]at e1;obtain⟨y,hy,rfl⟩:=e1;have hpv:=List.all_eq_true.1 (hpl y) _ (bc e2);have:=zk hfl (lO hlen l' i j y pv hy e2);exact⟨scv pv,by rw[<-Array.getElem?_toList];exact this,(gw hpv w (fun _=>True)).2,xe hpv⟩
  have hsim:=Fj (c':=⟨T,sz,l'.map enc,kd⟩) hs ho h1 h3 hcz hchg O O (by simp[hl']) hsite;refine⟨_,⟨γ,hsim.put (d:=some d) hN ?_⟩,h l' hQ hl'⟩;cases ro with
  |none=>exact .tup [] [] rfl fun i c v e=>by simp at e
  |some n =>
   have hn:=hro n O;refine .als (by simp[ao,ak]) fun _ l2 hl2=>?_;simp only[ao,ak,Option.map_some,Option.some.injEq]at hl2;subst hl2;exact .inr ⟨b,cap,cur',h1,by simp[KQ],hchg.at_,J,h5,by rw[hcz];exact h6,by simp;omega⟩
end
end Go.Pv
namespace Go.Proofs
open Go.Shelf
def Tryz.lays189_ren:Go.Shelf.Ren:=⟨fun|189=>275|125=>289|257=>288|128=>301|129=>302|294=>292|295=>293|296=>294|297=>295|298=>296|299=>297|216=>298|300=>299|301=>300|328=>305|329=>306|330=>307|331=>308|332=>309|215=>310|343=>312|n=>n,fun|28=>92|3=>3|46=>278|0=>0|51=>320|53=>226|4=>4|183=>337|182=>336|131=>89|5=>5|9=>9|218=>347|222=>351|228=>353|229=>354|n=>n,fun|n=>n⟩
theorem Tryz.lays189:Go.Proofs.Lays.n189 Tryz.prog Tryz.lays189_ren:={
 mixed:=by kernel_rfl
 f125:=Tryz.func289.trans (congrArg some (by kernel_rfl))
 f128:=Tryz.func301.trans (congrArg some (by kernel_rfl))
 f129:=Tryz.func302.trans (congrArg some (by kernel_rfl))
 f189:=Tryz.func275.trans (congrArg some (by kernel_rfl))
 f215:=Tryz.func310.trans (congrArg some (by kernel_rfl))
 f216:=Tryz.func298.trans (congrArg some (by kernel_rfl))
 f257:=Tryz.func288.trans (congrArg some (by kernel_rfl))
 f294:=Tryz.func292.trans (congrArg some (by kernel_rfl))
 f295:=Tryz.func293.trans (congrArg some (by kernel_rfl))
 f296:=Tryz.func294.trans (congrArg some (by kernel_rfl))
 f297:=Tryz.func295.trans (congrArg some (by kernel_rfl))
 f298:=Tryz.func296.trans (congrArg some (by kernel_rfl))
 f299:=Tryz.func297.trans (congrArg some (by kernel_rfl))
 f300:=Tryz.func299.trans (congrArg some (by kernel_rfl))
 f301:=Tryz.func300.trans (congrArg some (by kernel_rfl))
 f328:=Tryz.func305.trans (congrArg some (by kernel_rfl))
 f329:=Tryz.func306.trans (congrArg some (by kernel_rfl))
 f330:=Tryz.func307.trans (congrArg some (by kernel_rfl))
 f331:=Tryz.func308.trans (congrArg some (by kernel_rfl))
 f332:=Tryz.func309.trans (congrArg some (by kernel_rfl))
 f343:=Tryz.func312.trans (congrArg some (by kernel_rfl))
 t0:=Tryz.underlying0
 a0:=Tryz.isAgg0
 z0:=Tryz.sizeOf0
 v0:=Tryz.zeroValue0
 t3:=Tryz.underlying3
 a3:=Tryz.isAgg3
 z3:=Tryz.sizeOf3
 v3:=Tryz.zeroValue3
 t4:=Tryz.underlying4
 a4:=Tryz.isAgg4
 z4:=Tryz.sizeOf4
 v4:=Tryz.zeroValue4
 t5:=Tryz.underlying5
 a5:=Tryz.isAgg5
 z5:=Tryz.sizeOf5
 v5:=Tryz.zeroValue5
 t9:=Tryz.underlying9
 a9:=Tryz.isAgg9
 z9:=Tryz.sizeOf9
 v9:=Tryz.zeroValue9
 t28:=Tryz.underlying92
 a28:=Tryz.isAgg92
 z28:=Tryz.sizeOf92
 v28:=Tryz.zeroValue92
 t46:=Tryz.underlying278
 a46:=Tryz.isAgg278
 z46:=Tryz.sizeOf278
 v46:=Tryz.zeroValue278
 t51:=Tryz.underlying320
 a51:=Tryz.isAgg320
 z51:=Tryz.sizeOf320
 v51:=Tryz.zeroValue320
 t53:=Tryz.underlying226
 a53:=Tryz.isAgg226
 z53:=Tryz.sizeOf226
 v53:=Tryz.zeroValue226
 t131:=Tryz.underlying89
 a131:=Tryz.isAgg89
 z131:=Tryz.sizeOf89
 v131:=Tryz.zeroValue89
 t182:=Tryz.underlying336
 a182:=Tryz.isAgg336
 z182:=Tryz.sizeOf336
 v182:=Tryz.zeroValue336
 t183:=Tryz.underlying337
 a183:=Tryz.isAgg337
 z183:=Tryz.sizeOf337
 v183:=Tryz.zeroValue337
 t218:=Tryz.underlying347
 a218:=Tryz.isAgg347
 z218:=Tryz.sizeOf347
 v218:=Tryz.zeroValue347
 t222:=Tryz.underlying351
 a222:=Tryz.isAgg351
 z222:=Tryz.sizeOf351
 v222:=Tryz.zeroValue351
 t228:=Tryz.underlying353
 a228:=Tryz.isAgg353
 z228:=Tryz.sizeOf353
 v228:=Tryz.zeroValue353
 t229:=Tryz.underlying354
 a229:=Tryz.isAgg354
 z229:=Tryz.sizeOf354
 v229:=Tryz.zeroValue354 }
open Go.Sort Go.RowKit in
theorem Tryz.slices_Sort_int (blk off cap:Nat)(zs:List Int)(w:World)(hH:Holds (Value.int .i64) w blk off zs.toArray)(hblk:blk<w.heap.size)(hsz:zs.length<4611686018427387904) :
  Calls Tryz.prog 275 #[.slice (some ⟨blk,off,none⟩) zs.length cap] w fun e w' =>
   e = .returned (.tuple #[])/\∃n os,w'=grow (putRow (Value.int .i64) (Sort.ahead w n) blk off (zs.mergeSort fun x y=>decide (x<=y)).toArray) os:=Any.slices_Sort_int Tryz.lays189 blk off cap zs w hH hblk hsz
def Tryz.laysNm220_ren:Go.Shelf.Ren:=⟨fun|20=>276|n=>n,fun|22=>92|3=>3|4=>4|0=>0|n=>n,fun|n=>n⟩
theorem Tryz.laysNm220:Go.Proofs.Lays2.n20 Tryz.prog Tryz.laysNm220_ren:={
 mixed:=by kernel_rfl
 f20:=Tryz.func276.trans (congrArg some (by kernel_rfl))
 t0:=Tryz.underlying0
 a0:=Tryz.isAgg0
 z0:=Tryz.sizeOf0
 v0:=Tryz.zeroValue0
 t3:=Tryz.underlying3
 a3:=Tryz.isAgg3
 z3:=Tryz.sizeOf3
 v3:=Tryz.zeroValue3
 t4:=Tryz.underlying4
 a4:=Tryz.isAgg4
 z4:=Tryz.sizeOf4
 v4:=Tryz.zeroValue4
 t22:=Tryz.underlying92
 a22:=Tryz.isAgg92
 z22:=Tryz.sizeOf92
 v22:=Tryz.zeroValue92
 i3:=by kernel_rfl }
open Go.RowKit Go.Lib Go.Sort in
theorem Tryz.slices_Compact_int (blk off cap:Nat)(zs:List Int)(w:World)(hH:Holds (Value.int .i64) w blk off zs.toArray)(hsz:zs.length<=9223372036854775807)(hcap:zs.length<=cap) :
  Calls Tryz.prog 276 #[.slice (some ⟨blk,off,none⟩) zs.length cap] w fun e w'=>e = .returned (.slice (some ⟨blk,off,none⟩) (Lib.compact zs).length cap)/\∃q,w'=putRow (Value.int .i64) (Sort.ahead w q) blk off (Lib.compact zs++List.replicate (zs.length-(Lib.compact zs).length) 0).toArray:=Any.slices_Compact_int Tryz.laysNm220 blk off cap zs w hH hsz hcap
open Go.RowKit Go.Lib Go.Sort in
theorem Tryz.slices_Compact_int_empty (a:Option Addr)(cap:Nat)(w:World) :
  Calls Tryz.prog 276 #[.slice a 0 cap] w fun e w'=>e = .returned (.slice a 0 cap)/\w'=w:=Any.slices_Compact_int_empty Tryz.laysNm220 a cap w
open Go.RowKit Go.Sort in
theorem Tryz.slices_Sort_int_none (p:Option Addr)(cap:Nat)(w:World) :
  Calls Tryz.prog 275 #[.slice p 0 cap] w fun e w'=>e = .returned (.tuple #[])/\w'=w:=Any.slices_Sort_int_none Tryz.lays189 p cap w
end Go.Proofs
set_option maxHeartbeats 2000000
namespace Go.Pv
attribute [local irreducible] PWP POps PQuiet PSem aw aq ai aj
open Go.Proofs Go.RowKit Go.Sort
theorem Sim.cutS {C:Ctx}{γ:Nat->Option Nat}{s:St}{a:Act}{w:World}(h:Sim C γ s a w){k g n:Nat}{c:Cont}(ho:s.own k=(g,some c))(hz:0<c.sz):Sim C γ (s.setOwn k (g+1) (some ⟨c.ty,c.sz,c.rows.take n,c.kind⟩)) a w:=by
 have hown:∀k' c'',((s.setOwn k (g+1) (some ⟨c.ty,c.sz,c.rows.take n,c.kind⟩)).own k').2=some c''->∃c3,(s.own k').2=some c3:=by
  intro k' c'' hc;by_cases hk:k'=k
  .subst hk;exact⟨c,by rw[ho]⟩
  .rw[aF hk]at hc;exact⟨c'',hc⟩
 have hok:∀b',eE C γ s w b'->eE C γ (s.setOwn k (g+1) (some ⟨c.ty,c.sz,c.rows.take n,c.kind⟩)) w b':=by
  rintro b' ⟨f1,f2,f3⟩;exact⟨f1,f2,fun k' c'' hc=>let ⟨c3,hc3⟩:=hown k' c'' hc;f3 k' c3 hc3⟩
 have hle:(ao C γ s w).Le (ao C γ (s.setOwn k (g+1) (some ⟨c.ty,c.sz,c.rows.take n,c.kind⟩)) w):=by
  refine⟨hok,fun b' hb'=>⟨hb'.1,hok b' hb'.2⟩,fun b' hb'=>hb'.2,fun b' _=>rfl,fun k'=>?_,fun k' l' hg hl=>?_,fun k' l' b' cur'' _ hl hb' hh'=>⟨cur'',hh',O⟩⟩
  .show(s.own k').1<=((s.setOwn k (g+1) _).own k').1;by_cases hk:k'=k
   .subst hk;rw[ak,ho];exact Nat.le_succ _
   .rw[aF hk];exact aP
  .by_cases hk:k'=k
   .subst hk;have:((s.setOwn k' (g+1) (some ⟨c.ty,c.sz,c.rows.take n,c.kind⟩)).own k').1=(s.own k').1:=hg;rw[ak,ho]at this;simp at this
   .simp only[ao,aF hk]at hl;exact⟨l',hl,O,O,O,aP⟩
 refine⟨h.defers,h.size,fun r=>(h.regs r).mono hle,fun k' c'' hc=>?_,fun k1 k2 c1 c2 b' e1 e2 e3 e4=>?_,fun k' c'' b' e1 e2=>?_,h.below,h.top,fun c v hk=>(h.kept c v hk).mono hle⟩
 .by_cases hk:k'=k
  .subst hk;rw[ak]at hc;simp at hc;subst hc;have hs:=h.sites k' c (by rw[ho]);refine⟨fun hb=>by simp[hs.emp hb],(fun b' _ hz'=>by simp only at hz';omega),(fun b' _ hz'=>by simp only at hz';omega),fun b' hb' _=>?_⟩;obtain⟨cur,h1,h2,h3,h4,h5⟩:=hs.at_ b' hb' hz;refine⟨cur,h1,h2,?_,fun row hr=>h4 row (List.mem_of_mem_take hr),fun i j row pv e1 e2=>?_⟩
   .simp only[List.length_take];exact Nat.le_trans (Nat.mul_le_mul_right _ (Nat.min_le_right _ _)) h3
   .simp only[List.getElem?_take]at e1;split at e1
    .obtain⟨v,f1,f2,f3⟩:=h5 i j row pv e1 e2;exact⟨v,f1,f2,f3.mono hle⟩
    .cases e1
  .rw[aF hk]at hc;exact(h.sites k' c'' hc).mono hle fun b' hb'=>rfl
 .obtain⟨d1,f1⟩:=hown k1 c1 e1;obtain⟨d2,f2⟩:=hown k2 c2 e2;exact h.inj k1 k2 d1 d2 b' f1 f2 e3 e4
 .obtain⟨d1,f1⟩:=hown k' c'' e1;exact h.base k' d1 b' f1 e2
theorem Ghost.cut {s:St}{k g t n sz kd:Nat}{T:TypeId}{rows:List (List PV)}(ho:s.own k=(g,some ⟨T,sz,rows,kd⟩))(hr:s.reg t = .als k g 0 n)(hn:n<=rows.length)(hz:Nat.blt 0 sz=true) :
  Ghost s ((s.setOwn k (g+1) (some ⟨T,sz,rows.take n,kd⟩)).putR t (.als k (g+1) 0 n)):=by
 intro C a w hX ⟨γ,h⟩;have hz:0<sz:=by simpa using hz
 have h':=h.cutS (n:=n) ho hz;have hals:=h.als_at (by rw[<-hr];exact h.regs t) ho;refine⟨γ,h'.defers,h'.size,fun r=>?_,h'.sites,h'.inj,h'.base,h'.below,h'.top,h'.kept⟩;show Rep (ao C γ (s.setOwn k (g+1) (some ⟨T,sz,rows.take n,kd⟩)) w) (bif Nat.beq r t then _ else _) _;by_cases hrt:r=t
 .subst hrt;rw[Nat.beq_refl,cond_true];refine .als (by simp[ao,ak]) fun _ l hl=>?_;simp only[ao,ak,Option.map_some,Option.some.injEq]at hl;subst hl;rcases hals with⟨h1,h2,h3,h4⟩|⟨b,cap,cur,h1,h2,h3,h4,h5,h6,h7⟩
  .exact .inl ⟨h1,h2,h3,h4⟩
  .exact .inr ⟨b,cap,cur,h1,h2,h3,h4,h5,h6,by simp;omega⟩
 .rw[bm hrt,cond_false];exact h'.regs r
def df (l:List Int):List Int:=l.mergeSort fun x y=>decide (x<=y)
def sT (l:List Int):List Int:=Lib.compact l++List.replicate (l.length-(Lib.compact l).length) 0
theorem ud (x:Int):(eN x).all jv=true:=rfl
theorem o8 {w:World}{b:Nat}{T:TypeId}{cur:Array Value}{l:List Int}(hh:w.heap[b]? = some (.cells cur T (0,0)))(hc:cur.toList.take (l.length*1)=i5 eN l):Holds (Value.int .i64) w b 0 l.toArray:=fun j hj=>by
 have hj':j<l.length:=by simpa using hj
 have hx:l[j]? = some l[j]:=List.getElem?_eq_getElem hj';have h1:=zk hc (lO (sz:=1) (fun _=>rfl) l j 0 l[j] (I l[j]) hx O);rw[Nat.mul_one,Nat.add_zero]at h1;refine⟨?_,frozen_of_row w b _ cur T hh⟩;rw[bg hh,Nat.zero_add,<-Array.getElem?_toList,h1];simp[hj',scv]
theorem qW (l:List Int):i5 eN l=l.map (Value.int .i64):=by
 induction l with
 |nil=>rfl
 |cons x l ih=>rw[i5,List.flatMap_cons,List.map_cons,<-ih];rfl
theorem Fg:fu Tryz.prog 275:=⟨_,Go.Proofs.Tryz.func275,Y,O⟩
theorem Fh:fu Tryz.prog 276:=⟨_,Go.Proofs.Tryz.func276,Y,O⟩
section
variable {C:Ctx}{s:St}{d k g m kd:Nat}{ty:TypeId}{pos:String}{af:Array Edge}{x:Operand}{tys:Array TypeId}{K:St->Prop}
set_option maxRecDepth 20000 in
theorem Et (l:List Int)(hl:l.length<=1000000)(hx:s.ev x = .als k g 0 m)(hm:m=l.length)(ho:s.own k=(g,some ⟨3,1,l.map eN,kd⟩))
  (h:K ((s.setOwn k g (some ⟨3,1,(df l).map eN,kd⟩)).putR d (.tup []))):Sm Tryz.prog lay.get s ⟨some d,.call ⟨.value (.func 275),#[x],tys⟩,ty,pos,af,none⟩ K:=by
 refine pO (enc:=eN) (l:=l) (sz:=1) (more:=[]) (mv:=[]) none (fun l'=>l'=df l) ud (fun _=>rfl) Y O hx hm ho O Fg (fun n h=>by cases h) (fun hl0=>?_) (fun w b cap cur hh h1 h2 hc hg=>?_) (fun l' hQ _=>?_)
 .subst hl0;refine⟨by simp[df],fun w _=>(Tryz.slices_Sort_int_none none 0 w).mono ?_⟩;rintro e w' ⟨rfl,rfl⟩;exact⟨O,Below.refl _ _⟩
 .have hb:b<w.heap.size:=(cD hh).1;refine(Tryz.slices_Sort_int b 0 cap l w (o8 hh hc) hb J).mono ?_;rintro e w' ⟨rfl,n,os,hw⟩;have hlen:(df l).length=l.length:=by simp[df]
  have hchg:=yj (T:=3) hh hw;refine⟨df l,_,O,hlen,O,hchg,ku _ _ _ _,?_⟩;have:=kw (Value.int .i64) (df l).toArray cur (by simp[hlen];omega);rw[List.size_toArray,hlen]at this;rw[Nat.mul_one,qW];exact this
 .subst hQ;exact h
theorem fP (l:List Int):(Lib.compact l).length<=l.length:=by
 rw[Lib.compact,Lib.compactUpTo,List.length_map];exact Nat.le_trans (List.length_filter_le _ _) ah
theorem lZ (l:List Int):(sT l).length=l.length:=by
 have:=fP l;simp[sT];omega
set_option maxRecDepth 20000 in
theorem tV (l:List Int)(hl:l.length<=1000000)(hx:s.ev x = .als k g 0 m)(hm:m=l.length)(ho:s.own k=(g,some ⟨3,1,l.map eN,kd⟩))
  (h:K ((s.setOwn k g (some ⟨3,1,(sT l).map eN,kd⟩)).putR d (.als k g 0 (Lib.compact l).length))):Sm Tryz.prog lay.get s ⟨some d,.call ⟨.value (.func 276),#[x],tys⟩,ty,pos,af,none⟩ K:=by
 refine pO (enc:=eN) (l:=l) (sz:=1) (more:=[]) (mv:=[]) (some (Lib.compact l).length) (fun l'=>l'=sT l) ud (fun _=>rfl) Y O hx hm ho O Fh (fun n h=>by cases h;exact fP l) (fun hl0=>?_) (fun w b cap cur hh h1 h2 hc hg=>?_) (fun l' hQ _=>?_)
 .subst hl0;refine⟨O,fun w _=>(Tryz.slices_Compact_int_empty none 0 w).mono ?_⟩;rintro e w' ⟨rfl,rfl⟩;exact⟨O,Below.refl _ _⟩
 .refine(Tryz.slices_Compact_int b 0 cap l w (o8 hh hc) J h1).mono ?_;rintro e w' ⟨rfl,q,hw⟩;have hchg:=yj (T:=3) hh (hw.trans (Go.Sort.grow_empty _).symm);refine⟨sT l,_,O,lZ l,O,hchg,ku _ _ _ _,?_⟩;have:=kw (Value.int .i64) (sT l).toArray cur (by simp[lZ];omega);rw[List.size_toArray,lZ]at this;rw[Nat.mul_one,qW];exact this
 .subst hQ;exact h
end
open Go.Proofs
def bW (l:List SR):List Int:=Lib.compact (df (l.map (·.x)))
set_option maxRecDepth 20000 in
theorem pz (l:List SR)(hl:kz l)(h12:l.length<=1000):Ret Tryz.prog .shared 248 [.sl (l.map eS)] (.sl ((bW l).map eN)):=by
 have hml:(l.map eS).length=l.length:=ah;have hrows:∀(k:Nat) x,l[k]? = some x->((l.take (k+1)).map (·.x)).map eN=((l.take k).map (·.x)).map eN++[eN x.x]:=fun k x hx=>by rw[bC hx,List.map_append,List.map_append];rfl
 refine Ret.of_pwp layOk mixed Go.Proofs.Tryz.func248 O Y O O ?_
 ((repeat (first|refine aY ?_ | refine cE ?_ | refine cz ?_ | refine cB ?_));refine bq ?_)
 refine jb O trivial ?_
 ((repeat (first|refine aY ?_ | refine cE ?_ | refine cz ?_ | refine cB ?_));refine bq ?_)
 (first|refine aH (gZ 3 1 0 O O ?_)|refine aH (gY 3 1 0 O O ?_))
 refine H ?_;refine ap (fun k=>k<=l.length) (fun k=>[(3,.als 3 (k+1) 0 (((l.take k).map (·.x)).map eN).length),(6,.sl (l.map eS)),(7,I l.length),(8,I k)]) (fun k=>[(3,k+1,⟨3,1,((l.take k).map (·.x)).map eN,0⟩)]) (fun k=>l.length-k) 0 (Nat.zero_le _) ⟨O,O,by rw[<-hml];rfl,O,O,trivial⟩ ?_;intro k s hk;refine D ?_ ?_<;>intro h
 .have hlt:k<l.length:=by have:=aC h;omega
  clear h;obtain⟨x,hx⟩:=aJ hlt;have hw:=fc k;refine aS hx ?_;refine H ?_;refine aH (bx 0 O O O O O O O O O O O aI O ?_);refine H ?_;refine aH (bQ 0 O O O O O O O O O O O aI (by intro row hr;first|(simp at hr;subst hr;rfl)|simp at hr) O O aU aU ?_);refine H ?_;refine⟨k+1,hlt,J,?_,O,O,congrArg I hw,?_,trivial⟩
  .rw[hrows k x hx];rfl
  .rw[hrows k x hx];rfl
 .have hge:k=l.length:=by have:=aG h;omega
  subst hge;clear h;rw[List.take_length];have hal:(l.map (·.x)).length<=1000000:=by simp;omega
  generalize hX:l.map (·.x)=X at *
  have hsl:(df X).length<=1000000:=by rw[df,List.length_mergeSort];exact hal
  ((repeat ((fail_if_success (with_reducible refine aQ 7 ?_));refine cx O ?_));refine aM 1 ?_)
  refine fB O ?_;refine aY ?_;refine aV O (Et X hal O ah O ?_);refine aO ?_
  ((repeat ((fail_if_success (with_reducible refine aQ 8 ?_));refine cx O ?_));refine aM 1 ?_)
  refine fB O ?_;refine aY ?_;refine aV O (tV (df X) hsl O (by simp[df]) O ?_);refine aO ?_;refine jb O trivial ?_;refine aY ?_;refine cz ?_;refine aE (Ghost.cut (k:=3) (t:=2) (rows:=(sT (df X)).map eN) O O (by rw[List.length_map,lZ];exact fP _) O) ?_;have hc:((sT (df X)).map eN).take (Lib.compact (df X)).length=(bW l).map eN:=by
   rw[<-List.map_take,sT,List.take_left,bW,hX]
  have hcl:(Lib.compact (df X)).length=(bW l).length:=by rw[bW,hX]
  rw[hc];refine H ?_;exact iq O O O ⟨O,O,by show _=(List.map eN (bW l)).length;rw[List.length_map,hcl]⟩ O
theorem xb {l:List SR}{x:Int}(h:x∈bW l):∃s∈l,s.x=x:=by
 have h1:x∈df (l.map (·.x)):=by
  rw[bW,Lib.compact,Lib.compactUpTo]at h;obtain⟨i,hi,rfl⟩:=List.mem_map.1 h;have hi:=(List.mem_filter.1 hi).1;have hi:i<(df (l.map (·.x))).length:=by simpa using hi
  have e:(df (l.map (·.x))).toArray[i]! = (df (l.map (·.x)))[i]:=by simp[hi]
  rw[e];exact List.getElem_mem hi
 rw[df,List.mem_mergeSort]at h1;obtain⟨s,hs,rfl⟩:=List.mem_map.1 h1;exact⟨s,hs,O⟩
theorem gO {l:List SR}(hc:cH l=0){x:Int}(h:x∈bW l) : -1000000<=x/\x<=1000000:=by
 obtain⟨s,hs,rfl⟩:=xb h;rw[cH]at hc;split at hc
 .omega
 .have:=kO hc s hs;rw[mr]at this;split at this
  .omega
  .rename_i h1;omega
theorem iP (l:List SR):(bW l).length<=l.length:=by
 have:=fP (df (l.map (·.x)));rw[bW];simp[df]at this ⊢;exact this
def qD (x:Int):AR:=⟨ofQ ((-x:Int):Rat),ofQ ((1:Int):Rat)⟩
def yr (x:Int):AR:=⟨ofQ (x:Rat),ofQ ((-1:Int):Rat)⟩
def dp (l:List SR):List AR:=(bW l).map qD++(bW l).map yr
set_option maxRecDepth 20000 in
theorem v8 (l:List SR)(hl:kz l)(h12:l.length<=1000)(hck:cH l=0):Ret Tryz.prog .shared 201 [.sl (l.map eS)] (.sl ((dp l).map eA)):=by
 have hp:=pz l hl h12;have hrg:∀x∈bW l,-1000000<=x/\x<=1000000:=fun x hx=>gO hck hx;have hpl:=iP l;have w1:=bG 1 ⟨Y,Y⟩;have w2:=bG (-1) ⟨Y,Y⟩;rw[dp];generalize bW l=Pl at *
 have hml:(Pl.map eN).length=Pl.length:=ah;have hrows:∀(k:Nat) x,Pl[k]? = some x->((Pl.take (k+1)).map qD).map eA=((Pl.take k).map qD).map eA++[eA (qD x)]:=fun k x hx=>by rw[bC hx,List.map_append,List.map_append];rfl
 have hrows2:∀(k:Nat) x,Pl[k]? = some x->(Pl.map qD++(Pl.take (k+1)).map yr).map eA=(Pl.map qD++(Pl.take k).map yr).map eA++[eA (yr x)]:=fun k x hx=>by rw[bC hx];simp[List.map_append]
 refine Ret.of_pwp layOk mixed Go.Proofs.Tryz.func201 O Y O O ?_
 ((repeat (first|refine aY ?_ | refine cE ?_ | refine cz ?_ | refine cB ?_));refine bq ?_)
 refine jb O trivial ?_
 ((repeat (first|refine aY ?_ | refine cE ?_ | refine cz ?_ | refine cB ?_));refine bq ?_)
 (first|refine aH (gZ 71 8 1 O O ?_)|refine aH (gY 71 8 1 O O ?_))
 refine G hp ?_;refine H ?_;refine ap (fun k=>k<=Pl.length) (fun k=>[(0,.sl (l.map eS)),(3,.als 3 (k+1) 0 (((Pl.take k).map qD).map eA).length),(9,.sl (Pl.map eN)),(10,I Pl.length),(11,I k)]) (fun k=>[(3,k+1,⟨71,8,((Pl.take k).map qD).map eA,1⟩)]) (fun k=>Pl.length-k) 0 (Nat.zero_le _) ⟨O,O,O,by rw[<-hml];rfl,O,O,trivial⟩ ?_;intro k s hk;refine D ?_ ?_<;>intro h
 .have hlt:k<Pl.length:=by have:=aC h;omega
  clear h;obtain⟨x,hx⟩:=aJ hlt;have hr:=hrg x (bc hx);have hnx:=bG (-x) ⟨J,J⟩;have hw:=fc k;have hn:IntKind.i64.wrap (0-x) = -x:=by rw[wrap_i64 J J];omega
  refine aS hx ?_;refine H ?_;rw[hn];refine nR O O O hnx O O ?_;refine G w1 ?_;refine H ?_;refine aH (bx 1 O O O O O O O O O O O aI O ?_);refine H ?_;refine aH (bQ 1 O O O O O O O O O O O aI (by intro row hr;first|(simp at hr;subst hr;rfl)|simp at hr) O O aU aU ?_);refine H ?_;refine⟨k+1,hlt,J,O,?_,O,O,congrArg I hw,?_,trivial⟩
  .rw[hrows k x hx];rfl
  .rw[hrows k x hx];rfl
 .have hge:k=Pl.length:=by have:=aG h;omega
  subst hge;clear h;rw[List.take_length];refine G hp ?_;refine H ?_;refine ap (fun k=>k<=Pl.length) (fun k=>[(3,.als 3 (Pl.length+k+1) 0 ((Pl.map qD++(Pl.take k).map yr).map eA).length),(25,.sl (Pl.map eN)),(26,I Pl.length),(27,I k)]) (fun k=>[(3,Pl.length+k+1,⟨71,8,(Pl.map qD++(Pl.take k).map yr).map eA,1⟩)]) (fun k=>Pl.length-k) 0 (Nat.zero_le _) ⟨by rw[List.take_zero,List.map_nil,List.append_nil];rfl,O,by rw[<-hml];rfl,O,by rw[List.take_zero,List.map_nil,List.append_nil];rfl,trivial⟩ ?_;intro k s hk;refine D ?_ ?_<;>intro h
  .have hlt:k<Pl.length:=by have:=aC h;omega
   clear h;obtain⟨x,hx⟩:=aJ hlt;have hr:=hrg x (bc hx);have hnx:=bG x ⟨J,J⟩;have hw:=fc k;refine aS hx ?_;refine G hnx ?_;refine G w2 ?_;refine H ?_;refine aH (bx 1 O O O O O O O O O O O aI O ?_);refine H ?_;refine aH (bQ 1 O O O O O O O O O O O aI (by intro row hr;first|(simp at hr;subst hr;rfl)|simp at hr) O O aU aU ?_);refine H ?_;refine⟨k+1,hlt,J,?_,O,O,congrArg I hw,?_,trivial⟩
   .rw[hrows2 k x hx];rfl
   .rw[hrows2 k x hx];rfl
  .have hge:k=Pl.length:=by have:=aG h;omega
   subst hge;clear h;rw[List.take_length];refine H ?_;exact iq O O O aI O
def ek:AR:=⟨ofQ ((1:Int):Rat),ofQ ((0:Int):Rat)⟩
noncomputable def lg (b:BR)(r:AR):Bool:=mV b r.z.val r.t.val
noncomputable def jA (b:BR):PV:=if lg b ek=true then .tup [.agg (eA ek),I 12] else match (dp b.l).find? (lg b) with
 |some r => .tup [.agg (eA r),I 13]
 |none => .tup [.agg (zN++zN),I 0]
theorem vI {z:Int}(h:i64 z):Vq (ofQ (z:Rat)) ((ofQ (z:Rat)).val) 4:=by
 have hz:Zb z:=aK h.1 h.2;have:=Vq.ofQ (h:=HQ.int (z:=z));rw[ofQ_val];exact this
theorem zp {l:List SR}(hck:cH l=0){r:AR}(h:r∈dp l):Va r r.z.val r.t.val 4 4:=by
 rw[dp,List.mem_append]at h;rcases h with h|h
 .obtain⟨x,hx,rfl⟩:=List.mem_map.1 h;have:=gO hck hx;exact⟨vI ⟨J,J⟩,vI ⟨Y,Y⟩⟩
 .obtain⟨x,hx,rfl⟩:=List.mem_map.1 h;have:=gO hck hx;exact⟨vI ⟨J,J⟩,vI ⟨Y,Y⟩⟩
theorem yu:Va ek ek.z.val ek.t.val 4 4:=⟨vI ⟨Y,Y⟩,vI ⟨Y,Y⟩⟩
theorem Ad {α:Type}(p:α->Bool){l:List α}{i:Nat}{x:α}(h:l[i]? = some x):(l.drop i).find? p=if p x=true then some x else(l.drop (i+1)).find? p:=by
 obtain⟨hl,rfl⟩:=bb h;rw[List.drop_eq_getElem_cons hl,List.find?_cons];cases p l[i]<;>simp
set_option maxRecDepth 20000 in
theorem nG (b:BR)(hb:b.Ok):Ret Tryz.prog .shared 141 [.agg (eB b)] (jA b):=by
 have w1:=bG 1 ⟨Y,Y⟩;have w0:=bG 0 ⟨Y,Y⟩;have hd:=nH b hb ek yu Y Y;have ht:=v8 b.l hb.lim.l (by have:=hb.few.1;omega) hb.chkL;have hva:∀r∈dp b.l,Ret Tryz.prog .shared 200 [.agg (eB b),.agg (eA r)] (.bool (lg b r)):=fun r hr=>nH b hb r (zp hb.chkL hr) Y Y;rw[show mV b ek.z.val ek.t.val=lg b ek from O]at hd;have htl:(dp b.l).length<=1000:=by
  have:=iP b.l;have:=hb.few.1;rw[dp];simp;omega
 generalize hR:jA b=R;rw[jA]at hR;generalize dp b.l=T at *
 have hml:(T.map eA).length=T.length:=ah;generalize hfn:lg b=fn at *
 clear hfn;obtain⟨w,ba,l⟩:=b;simp only at *
 rw[ek]at *
 by_cases h1:fn ⟨ofQ ((1:Int):Rat),ofQ ((0:Int):Rat)⟩=true
 .rw[if_pos h1]at hR;rw[h1]at hd;subst hR;refine Ret.of_pwp layOk mixed Go.Proofs.Tryz.func141 O Y O O ?_;refine G w1 ?_;refine G w0 ?_;refine ar hd ?_;exact bV
 .rw[if_neg h1]at hR;rw[Bool.not_eq_true]at h1;rw[h1]at hd;refine Ret.of_pwp layOk mixed Go.Proofs.Tryz.func141 O Y O O ?_;refine G w1 ?_;refine G w0 ?_;refine ar hd ?_;refine G ht ?_;refine H ?_;refine ap (fun i=>i<=T.length/\(T.drop i).find? fn=T.find? fn) (fun i=>[(1,.ptr 1 1 0 0),(2,.ptr 2 1 0 0),(16,.sl (T.map eA)),(17,I T.length),(18,I (i:Nat))]) (fun i=>[(1,1,⟨158,6,[eB ⟨w,ba,l⟩],2⟩),(2,1,⟨71,8,[zN++zN],2⟩)]) (fun i=>T.length-i) 0 ⟨Nat.zero_le _,by rw[List.drop_zero]⟩ ⟨O,O,O,by rw[<-hml];rfl,O,O,O,trivial⟩ ?_;intro i s ⟨hi,hF⟩;refine D ?_ ?_<;>intro h
  .have hlt:i<T.length:=by have:=aC h;omega
   clear h;obtain⟨r,hr⟩:=aJ hlt;have hrr:=hva r (bc hr);have hw:=fc i;rw[Ad fn hr]at hF;cases hfr:fn r with
   |true =>
    rw[hfr]at hrr;rw[if_pos hfr]at hF;rw[<-hF]at hR;simp only at hR;subst hR;refine aS hr ?_;refine ar hrr ?_;exact bV
   |false =>
    rw[hfr]at hrr;rw[if_neg (by rw[hfr];decide)]at hF;refine aS hr ?_;refine ar hrr ?_;refine H ?_;exact⟨i+1,⟨J,hF⟩,J,O,O,O,O,congrArg I hw,O,O,trivial⟩
  .have hie:i=T.length:=by have:=aG h;omega
   clear h;rw[hie,List.drop_length,List.find?_nil]at hF;rw[<-hF]at hR;simp only at hR;subst hR;exact bV
def nQ {α:Type}(d:α->Rat)(l:List α)(x:α):Nat->Nat
 |0=>0
 |k+1=>match l[k]? with
  |some y=>if d x<d y then nQ d l x k else k+1
  |none=>nQ d l x k
def u9 {α:Type}(d:α->Rat)(l:List α)(x:α):Nat:=nQ d l x l.length
def b_ {α:Type}(l:List α)(x:α)(k:Nat):List α:=l.take k++x::l.drop k
def kR {α:Type}(d:α->Rat)(l:List α)(x:α):List α:=b_ l x (u9 d l x)
def b8 {α:Type}(d:α->Rat)(l:List α):List α:=l.foldl (kR d) []
theorem yU {α:Type}{d:α->Rat}{l:List α}{x:α}{j:Nat}(h2:j=0\/∃y,l[j-1]? = some y/\d y<=d x):∀k,j<=k->k<=l.length->(∀q y,j<=q->q<k->l[q]? = some y->d x<d y)->nQ d l x k=j
 |0,hk,_,_=>by rw[nQ];omega
 |k+1,hk,hl,h1=>by
  obtain⟨y,hy⟩:∃y,l[k]? = some y:=⟨l[k],List.getElem?_eq_getElem J⟩;rw[nQ,hy];dsimp only;by_cases he:j=k+1
  .subst he;rcases h2 with h2|⟨z,hz,hd⟩
   .omega
   .rw[Nat.add_sub_cancel,hy]at hz;cases hz;rw[if_neg aW]
  .rw[if_pos (h1 k y J J hy)];exact yU h2 k J J fun q z hq hq2=>h1 q z hq J
theorem n9 {α:Type}{d:α->Rat}{l:List α}{x:α}{j:Nat}(hj:j<=l.length)(h1:∀q y,j<=q->l[q]? = some y->d x<d y)(h2:j=0\/∃y,l[j-1]? = some y/\d y<=d x):u9 d l x=j :=
 yU h2 _ hj (aP) fun q y hq _=>h1 q y hq
theorem Aq {α:Type}(d:α->Rat)(l:List α)(x:α):(kR d l x).Perm (x::l):=by
 rw[kR,b_];exact List.perm_middle.trans (by rw[List.take_append_drop])
theorem iT {α:Type}(d:α->Rat)(l:List α)(x:α):b8 d (l++[x])=kR d (b8 d l) x:=by
 rw[b8,List.foldl_append];rfl
theorem gC {α:Type}(d:α->Rat)(l:List α):(b8 d l).Perm l:=by
 have:∀(l acc:List α),(l.foldl (kR d) acc).Perm (acc++l):=by
  intro l
  induction l with
  |nil=>intro acc;simp
  |cons x l ih =>
   intro acc;rw[List.foldl_cons];refine(ih _).trans (((Aq d acc x).append_right l).trans ?_);rw[List.cons_append];exact List.perm_middle.symm
 exact this l []
theorem dJ {α:Type}(d:α->Rat)(l:List α):(b8 d l).length=l.length:=(gC d l).length_eq
theorem pe {α:Type}{l:List α}{x:α}{k:Nat}(hk:k<=l.length):(b_ l x k)[k]? = some x:=by
 rw[b_,List.getElem?_append_right aU];simp[Nat.min_eq_left hk]
theorem lR {α:Type}{l:List α}{x:α}{k q:Nat}(hk:k<=l.length)(h:q<k):(b_ l x k)[q]? = l[q]? := by
 rw[b_,List.getElem?_append_left aU,List.getElem?_take,if_pos h]
theorem pf {α:Type}{l:List α}{x y:α}{k:Nat}(hk:k+1<=l.length)(hy:l[k]? = some y):((b_ l x (k+1)).set (k+1) y).set k x=b_ l x k:=by
 obtain⟨hlt,rfl⟩:=bb hy;apply List.ext_getElem?;intro q;have hl1:(b_ l x (k+1)).length=l.length+1:=by simp[b_];omega
 simp only[List.getElem?_set,List.length_set,hl1];by_cases h1:k=q
 .subst h1;rw[if_pos O,if_pos J,pe J]
 .rw[if_neg h1];by_cases h2:k+1=q
  .subst h2;rw[if_pos O,if_pos J,b_,List.getElem?_append_right aU];simp only[List.length_take,Nat.min_eq_left (show k<=l.length by omega),Nat.add_sub_cancel_left,List.getElem?_cons_succ,List.getElem?_drop,Nat.add_zero];exact(List.getElem?_eq_getElem hlt).symm
  .rw[if_neg h2];rcases Nat.lt_or_ge q k with h|h
   .rw[lR J h,lR hk J]
   .rw[b_,b_,List.getElem?_append_right aU,List.getElem?_append_right aU];simp only[List.length_take,Nat.min_eq_left hk,Nat.min_eq_left (show k<=l.length by omega)];obtain⟨r,rfl⟩:∃r,q=k+2+r:=⟨q-(k+2),J⟩;rw[show k+2+r-(k+1)=r+1 by omega,show k+2+r-k=r+1+1 by omega,List.getElem?_cons_succ,List.getElem?_cons_succ,List.getElem?_drop,List.getElem?_drop];congr 1;omega
theorem mP {α:Type}(d:α->Rat)(l:List α)(x:α):∀k,k<=l.length->(nQ d l x k=0\/∃y,l[nQ d l x k-1]? = some y/\d y<=d x)/\∀q y,nQ d l x k<=q->q<k->l[q]? = some y->d x<d y
 |0,_=>⟨.inl rfl,fun q y _ hq=>by omega⟩
 |k+1,hk=>by
  obtain⟨y,hy⟩:∃y,l[k]? = some y:=⟨l[k],List.getElem?_eq_getElem J⟩;obtain⟨h1,h2⟩:=mP d l x k J;rw[nQ,hy];dsimp only;split
  .rename_i hlt;refine⟨h1,fun q z hq hqk hz=>?_⟩;by_cases he:q=k
   .subst he;rw[hy]at hz;cases hz;exact hlt
   .exact h2 q z hq J hz
  .rename_i hlt;exact⟨.inr ⟨y,by rw[Nat.add_sub_cancel];exact hy,aW⟩,fun q z hq hqk=>by omega⟩
theorem uu {α:Type}{d:α->Rat}{l:List α}(x:α)(h:l.Pairwise fun a b=>d a<=d b):(kR d l x).Pairwise fun a b=>d a<=d b:=by
 obtain⟨h1,h2⟩:=mP d l x l.length (aP);rw[kR,b_,u9];generalize nQ d l x l.length=k at *
 have hbefore:∀a∈l.take k,d a<=d x:=by
  intro a ha;rcases h1 with h1|⟨y,hy,hyx⟩
  .subst h1;simp at ha
  .obtain⟨i,hi,rfl⟩:=List.getElem_of_mem ha;have hi':i<k:=by simp at hi;omega
   have hil:i<l.length:=by simp at hi;omega
   obtain⟨hk1,hk2⟩:=bb hy;rw[List.getElem_take];by_cases he:i=k-1
   .subst he;rw[hk2];exact hyx
   .have:=List.pairwise_iff_getElem.1 h i (k-1) hil hk1 J;rw[hk2]at this;grind
 have hbehind:∀a∈l.drop k,d x<=d a:=by
  intro a ha;obtain⟨i,hi,rfl⟩:=List.getElem_of_mem ha;have hil:k+i<l.length:=by simp at hi;omega
  have:=h2 (k+i) l[k+i] J hil (List.getElem?_eq_getElem hil);rw[List.getElem_drop];grind
 refine List.pairwise_append.2 ⟨h.sublist (List.take_sublist _ _),List.pairwise_cons.2 ⟨hbehind,h.sublist (List.drop_sublist _ _)⟩,fun a ha b hb=>?_⟩;rcases List.mem_cons.1 hb with rfl|hb
 .exact hbefore a ha
 .have:=hbefore a ha;have:=hbehind b hb;grind
theorem fV {α:Type}(d:α->Rat)(l:List α):(b8 d l).Pairwise fun a b=>d a<=d b:=by
 have:∀(l acc:List α),acc.Pairwise (fun a b=>d a<=d b)->(l.foldl (kR d) acc).Pairwise fun a b=>d a<=d b:=by
  intro l
  induction l with
  |nil=>intro acc h;exact h
  |cons x l ih=>intro acc h;exact ih _ (uu x h)
 exact this l [] .nil
theorem db {L:Lay}{fn:Func}{K:St->PV->Prop}{s:St}(h:fn.results.toList=[])(hk:K s (.tup [])):aj L fn K .normal s:=by
 unfold aj;exact⟨[],True,by rw[h];rfl,trivial,hk⟩
structure BN where
 at':RR
 up:RR
def bD (b:BN):List PV:=eR b.at'++eR b.up
def bz (b:BN):Rat:=b.at'.val
theorem jg {p q:BN}(h1:p.at'.sz 7000000)(h2:q.at'.sz 7000000):Ret Tryz.prog .shared 279 [.agg (bD p),.agg (bD q)] (I (sgn (bz p-bz q))):=by
 have hc:=i9 p.at' q.at' (hx:=h1.v) (hy:=h2.v) Y Y;rw[show p.at'.val-q.at'.val=bz p-bz q from O]at hc;generalize sgn (bz p-bz q)=g at *
 obtain⟨pa,pu⟩:=p;obtain⟨qa,qu⟩:=q;simp only at *
 refine Ret.of_pwp layOk mixed Go.Proofs.Tryz.func279 O Y O O ?_;refine ar hc ?_;exact cp
set_option maxRecDepth 20000 in
theorem Iq {K:St->Prop}{s:St}{d g:Nat}{x y z c:Operand}{tys:Array TypeId}{ty:TypeId}{pos:String}{af:Array Edge}(l:List BN)(hl:l.length<=1000)
  (hx:s.ev x = .als 5 g 0 (l.map bD).length) (hy:s.ev y=I 0) (hz:s.ev z=I l.length) (hc:s.ev c = .clo 279 [])
  (hd:∀p∈l,p.at'.sz 7000000)
  (ho:FitO s [(5,g,⟨303,8,l.map bD,1⟩)])
  (hK:∀s1:St,K (({ reg:=s.reg,own:=(s1.over [] [(5,g,⟨303,8,(b8 bz l).map bD,1⟩)]).own }:St).putR d (.tup []))) :
  Sm Tryz.prog lay.get s ⟨some d,.call ⟨.value (.func 303),#[x,y,z,c],tys⟩,ty,pos,af,none⟩ K:=by
 refine bT layOk O O Tryz.func303 O Y O O ?_;show PWP _ _ _ _ (bh s (([x,y,z,c]:List Operand).map s.ev++[]));rw[show(([x,y,z,c]:List Operand).map s.ev++([]:List PV))=[.als 5 g 0 (l.map bD).length,I 0,I l.length,.clo 279 []] by simp[hx,hy,hz,hc]];rw[show bh s [.als 5 g 0 (l.map bD).length,I 0,I l.length,.clo 279 []]=bh (s.over [] [(5,g,⟨303,8,l.map bD,1⟩)]) [.als 5 g 0 (l.map bD).length,I 0,I l.length,.clo 279 []] by rw[Fit.over (l:=[]) ho]];have hen:(l.map bD).length=l.length:=by rw[List.length_map]
 have h1s:b8 bz (l.take 1)++l.drop 1=l:=by
  cases l with
  |nil=>rfl
  |cons x r=>rfl
 refine H ?_;refine ap (fun i=>1<=i/\(i<=l.length\/i=1)) (fun i=>[(0,.als 5 g 0 (l.map bD).length),(1,I 0),(2,I l.length),(3,.clo 279 []),(8,I i)])
  (fun i=>[(5,g,⟨303,8,(b8 bz (l.take i)++l.drop i).map bD,1⟩)]) (fun i=>l.length+1-i) 1 ⟨aP,.inr O⟩ ⟨O,O,O,O,O,by rw[h1s];rfl,trivial⟩ ?_
 rintro i s1 ⟨hi1,hi⟩;refine D ?_ ?_<;>intro h
 .have hlt:i<l.length:=by have:=aC h;omega
  clear h;obtain⟨p,hp⟩:=aJ hlt;have hx0:=hp;have htk:l.take (i+1)=l.take i++[p]:=bC hx0;have hdr:l.drop i=p::l.drop (i+1):=by
   obtain⟨hl1,h2⟩:=bb hx0;rw[List.drop_eq_getElem_cons hl1,h2]
  generalize hP:b8 bz (l.take i)=P at *
  have hPl:P.length=i:=by rw[<-hP,dJ,List.length_take];omega
  have hstart:P++l.drop i=b_ P p i++l.drop (i+1):=by
   have hti:P.take i=P:=List.take_of_length_le J;have hdi:P.drop i=[]:=List.drop_eq_nil_of_le J;rw[hdr,b_,hti,hdi];simp
  refine H ?_;refine ap (fun j=>j<=i/\∀q y,j<=q->P[q]? = some y->bz p<bz y) (fun j=>[(0,.als 5 g 0 (l.map bD).length),(1,I 0),(2,I l.length),(3,.clo 279 []),(8,I i),(9,I j)])
   (fun j=>[(5,g,⟨303,8,(b_ P p j++l.drop (i+1)).map bD,1⟩)]) (fun j=>j) i ⟨aP,fun q y hq hy=>by rw[List.getElem?_eq_none J]at hy;cases hy⟩ ⟨O,O,O,O,O,O,by rw[hstart];rfl,trivial⟩ ?_
  rintro j s2 ⟨hj,hpre⟩;refine cn 17 [18,19,20,21,22,23,24,25,26,27,28,29,30,31,32,33,34] ?_;refine dE ?_ ?_<;>intro h
  .have hj0:0<j:=by have:=aC h;omega
   clear h;obtain⟨k,rfl⟩:∃k,j=k+1:=⟨j-1,J⟩;have hrow:((b_ P p (k+1)++l.drop (i+1)).map bD)[k+1]? = some (bD p):=by
    rw[List.getElem?_map,List.getElem?_append_left (by simp[b_];omega),pe J];rfl
   obtain⟨y,hy1⟩:=aJ (show k<P.length by omega);have hrow2:((b_ P p (k+1)++l.drop (i+1)).map bD)[k]? = some (bD y):=by
    rw[List.getElem?_map,List.getElem?_append_left (by simp[b_];omega),lR J J,hy1];rfl
   have hym:y∈l:=List.mem_of_mem_take ((gC bz _).mem_iff.1 (hP▸bc hy1));have hw1:IntKind.i64.wrap (((k+1:Nat):Int)-1)=(k:Nat):=by rw[wrap_i64 J J];omega
   refine H ?_;refine bE O O (bO O O O O O O O J (by rw[hen];omega)) ?_;rw[Int.toNat_natCast,Nat.zero_add (k+1)];refine bE O O (cu O O O hrow O) ?_;refine H ?_;rw[hw1];refine bE O O (bO O O O O O O O J (by rw[hen];omega)) ?_;rw[Int.toNat_natCast,Nat.zero_add k];refine bE O O (cu O O O hrow2 O) ?_;refine ar (jg (hd p (bc hp)) (hd y hym)) ?_;refine D ?_ ?_<;>intro h
   .have hlt2:bz p<bz y:=by have:=(cP _).1 (aC h);grind
    clear h;refine H ?_;refine aZ 15 0 [37,38,39,40,41,42,43,44,45,46,47,48,49,50,51] [2,3,4] aT O ?_;refine H ?_;rw[hw1];refine bE O O (bO O O O O O O O J (by rw[hen];omega)) ?_;rw[Int.toNat_natCast,Nat.zero_add k];refine bE O O (cu O O O hrow2 O) ?_;refine H ?_;refine bE O O (bO O O O O O O O J (by rw[hen];omega)) ?_;rw[Int.toNat_natCast,Nat.zero_add (k+1)];refine bE O O (cu O O O hrow O) ?_;refine H ?_;refine bE O O (bO O O O O O O O J (by rw[hen];omega)) ?_;rw[Int.toNat_natCast,Nat.zero_add (k+1)];refine H ?_;refine bL (bN (kd':=1) O O O hrow O O aI O O O O ?_);refine bE O O (bO O O O O O O O J (by rw[hen];omega)) ?_;rw[Int.toNat_natCast,Nat.zero_add k];refine bL (bN (kd':=1) O O O (row:=bD y) (by
     show(((b_ P p (k+1)++l.drop (i+1)).map bD).set (k+1) _)[k]? = _
     rw[List.getElem?_set_ne J];exact hrow2) O O aI O O O O ?_)
    refine H ?_;refine⟨k,⟨J,fun q z hq hz=>?_⟩,J,O,O,O,O,O,?_,?_,trivial⟩
    .by_cases hqk:q=k
     .subst hqk;rw[hy1]at hz;cases hz;exact hlt2
     .exact hpre q z J hz
    .exact congrArg I hw1
    .refine Eq.trans (b:=(g,some (Cont.mk 303 8 ((((b_ P p (k+1)++l.drop (i+1)).map bD).set (k+1) (bD y)).set k (bD p)) 1))) O ?_;rw[<-List.map_set,<-List.map_set,List.set_append_left _ _ (by simp[b_];omega),List.set_append_left _ _ (by simp[b_];omega),pf J hy1]
   .have hge2:bz y<=bz p:=by
     have h9:=aG h;rw[cP]at h9;grind
    clear h;have hpos:u9 bz P p=k+1:=n9 J hpre (.inr ⟨y,hy1,hge2⟩);have hins:b8 bz (l.take (i+1))=b_ P p (k+1):=by rw[htk,iT,hP,kR,hpos]
    refine H ?_;refine⟨i+1,⟨J,.inl J⟩,J,O,O,O,O,cg J J,?_,trivial⟩;rw[hins];rfl
  .have hj0:j=0:=by have:=aG h;omega
   subst hj0;clear h;have hpos:u9 bz P p=0:=n9 J hpre (.inl O);have hins:b8 bz (l.take (i+1))=b_ P p 0:=by rw[htk,iT,hP,kR,hpos]
   refine H ?_;refine⟨i+1,⟨J,.inl J⟩,J,O,O,O,O,cg J J,?_,trivial⟩;rw[hins];rfl
 .have hge:l.length<=i:=by have:=aG h;omega
  have hend:b8 bz (l.take i)++l.drop i=b8 bz l:=by
   rw[List.take_of_length_le hge,List.drop_eq_nil_of_le hge,List.append_nil]
  rw[hend];refine H ?_;exact db O (hK s1)
set_option maxRecDepth 20000 in
theorem xN {K:St->Prop}{s:St}{d g:Nat}{x z c:Operand}{tys:Array TypeId}{ty:TypeId}{pos:String}{af:Array Edge}(l:List BN)(hl:l.length<=19)
  (hx:s.ev x = .als 5 g 0 (l.map bD).length) (hz:s.ev z=I l.length) (hc:s.ev c = .clo 279 [])
  (hd:∀p∈l,p.at'.sz 7000000)
  (ho:FitO s [(5,g,⟨303,8,l.map bD,1⟩)])
  (hK:∀s1:St,K (({ reg:=s.reg,own:=(s1.over [] [(5,g,⟨303,8,(b8 bz l).map bD,1⟩)]).own }:St).putR d (.tup []))) :
  Sm Tryz.prog lay.get s ⟨some d,.call ⟨.value (.func 290),#[x,z,c],tys⟩,ty,pos,af,none⟩ K:=by
 refine bT layOk O O Tryz.func290 O Y O O ?_;show PWP _ _ _ _ (bh s (([x,z,c]:List Operand).map s.ev++[]));rw[show(([x,z,c]:List Operand).map s.ev++([]:List PV))=[.als 5 g 0 (l.map bD).length,I l.length,.clo 279 []] by simp[hx,hz,hc]];rw[show bh s [.als 5 g 0 (l.map bD).length,I l.length,.clo 279 []]=bh (s.over [] [(5,g,⟨303,8,l.map bD,1⟩)]) [.als 5 g 0 (l.map bD).length,I l.length,.clo 279 []] by rw[Fit.over (l:=[]) ho]];refine H ?_;refine ap (fun _:Unit=>True) (fun _=>[(0,.als 5 g 0 (l.map bD).length),(1,I l.length),(2,.clo 279 []),(6,I 20),(7,I 0),(8,I 20)])
  (fun _=>[(5,g,⟨303,8,l.map bD,1⟩)]) (fun _=>0) () trivial ⟨O,O,O,O,O,O,O,trivial⟩ ?_
 rintro _ s1 -
 refine D ?_ ?_<;>intro h
 .have:=aC h;omega
 clear h
 ((repeat ((fail_if_success (with_reducible refine aQ 6 ?_));refine cx O ?_));refine aM 4 ?_)
 refine H ?_;refine aV O (Iq l J O O O O hd ⟨O,trivial⟩ fun s2=>?_);refine aO ?_;refine H ?_;refine ap (fun _:Unit=>True) (fun _=>[(1,I l.length),(6,I 20)])
  (fun _=>[(5,g,⟨303,8,(b8 bz l).map bD,1⟩)]) (fun _=>0) () trivial ⟨O,O,O,trivial⟩ ?_
 rintro _ s3 -
 refine D ?_ ?_<;>intro h
 .have:=aC h;omega
 clear h;refine H ?_;exact db O (hK s3)
set_option maxRecDepth 20000 in
theorem Es {K:St->Prop}{s:St}{d g:Nat}{x c:Operand}{tys:Array TypeId}{ty:TypeId}{pos:String}{af:Array Edge}(l:List BN)(hl:l.length<=19)
  (hx:s.ev x = .als 5 g 0 (l.map bD).length) (hc:s.ev c = .clo 279 [])
  (hd:∀p∈l,p.at'.sz 7000000)
  (ho:FitO s [(5,g,⟨303,8,l.map bD,1⟩)])
  (hK:∀s1:St,K (({ reg:=s.reg,own:=(s1.over [] [(5,g,⟨303,8,(b8 bz l).map bD,1⟩)]).own }:St).putR d (.tup []))) :
  Sm Tryz.prog lay.get s ⟨some d,.call ⟨.value (.func 278),#[x,c],tys⟩,ty,pos,af,none⟩ K:=by
 refine bT layOk O O Tryz.func278 O Y O O ?_;show PWP _ _ _ _ (bh s (([x,c]:List Operand).map s.ev++[]));rw[show(([x,c]:List Operand).map s.ev++([]:List PV))=[.als 5 g 0 (l.map bD).length,.clo 279 []] by simp[hx,hc]];rw[show bh s [.als 5 g 0 (l.map bD).length,.clo 279 []]=bh (s.over [] [(5,g,⟨303,8,l.map bD,1⟩)]) [.als 5 g 0 (l.map bD).length,.clo 279 []] by rw[Fit.over (l:=[]) ho]];have hen:(l.map bD).length=l.length:=by rw[List.length_map]
 ((repeat ((fail_if_success (with_reducible refine aQ 0 ?_));refine cx O ?_));refine aM 4 ?_)
 refine H ?_;refine aV O (xN l hl O (congrArg (fun n:Nat=>I n) hen) O hd ⟨O,trivial⟩ fun s2=>?_);refine aO ?_;refine H ?_;exact db O (hK s2)
def lC (s:SR)(t:Rat):Rat:=s.c.val+t*(s.x:Rat)
def bn (s:SR)(t:Rat)(k:Nat):BN:=⟨ofQ (s.k.s k-lC s t),ofQ (s.k.m k-bI s.k.m k)⟩
def jO (t:Rat)(s:SR):List BN:=(List.range s.k.S.length).map (bn s t)
def ko (l:List SR)(t:Rat):List BN:=l.flatMap (jO t)
theorem nX (t:Rat)(s:SR):(jO t s).length=s.k.S.length:=by simp[jO]
theorem yd {s:SR}(hs:s.Lim){t:Rat}{m:Nat}(ht:HQ t m):HQ (lC s t) (13+(m+4)+1):=by
 have hx:Zb s.x:=aK hs.x.1 hs.x.2;exact @HQ.add _ _ 13 (m+4) hs.c.v.hq (@HQ.mul _ _ m 4 ht HQ.int)
theorem yg {s:SR}(hs:s.Lim){t:Rat}{m:Nat}(ht:HQ t m)(k:Nat):HQ (s.k.s k-lC s t) (4+(13+(m+4)+1)+1):=by
 have hb:=nJ hs.k k;have hzb:Zb (s.k.S.getD k 0):=aK hb.1 hb.2;exact @HQ.sub _ _ 4 _ HQ.int (yd hs ht)
theorem Cf {l:List SR}{t:Rat}{b:BN}(h:b∈ko l t):∃s∈l,∃k,k<s.k.S.length/\b=bn s t k:=by
 obtain⟨s,hs,hb⟩:=List.mem_flatMap.1 h;obtain⟨k,hk,rfl⟩:=List.mem_map.1 hb;exact⟨s,hs,k,List.mem_range.1 hk,O⟩
def Ce (l:List SR)(t:Rat):List BN:=b8 bz (ko l t)
theorem xi (f:Nat->BN)(k:Nat):(List.range (k+1)).map f=(List.range k).map f++[f k]:=by rw[List.range_succ,List.map_append];rfl
set_option maxRecDepth 20000 in
structure SortC (l:List BN):Prop where
 run:∀ {K:St->Prop} {s:St} {d g:Nat} {x c:Operand} {tys:Array TypeId} {ty:TypeId} {pos:String} {af:Array Edge},s.ev x = .als 5 g 0 (l.map bD).length->s.ev c = .clo 279 []->(∀p∈l,p.at'.sz 7000000)->FitO s [(5,g,⟨303,8,l.map bD,1⟩)] ->
  (∀s1:St,K (({ reg:=s.reg,own:=(s1.over [] [(5,g,⟨303,8,(b8 bz l).map bD,1⟩)]).own }:St).putR d (.tup [])))->Sm Tryz.prog lay.get s ⟨some d,.call ⟨.value (.func 278),#[x,c],tys⟩,ty,pos,af,none⟩ K
set_option maxRecDepth 20000 in
theorem GC (l:List BN)(hl:l.length<=19):SortC l:=⟨fun hx hc hd ho hK=>Es l hl hx hc hd ho hK⟩
set_option maxRecDepth 20000 in
theorem tS (l:List SR)(hl:kz l)(hck:cH l=0)(h8:∀s∈l,s.k.S.length<=8)(h12:l.length<=12)(tr:RR){t:Rat}{m:Nat}[ht:Vq tr t m](hm:m<=1000000)(h40:(ko l t).length<=54)(hS:SortC (ko l t)) :
  Ret Tryz.prog .shared 250 [.sl (l.map eS),.agg (eR tr)] (.sl ((Ce l t).map bD)):=by
 have hw0:=bG 0 ⟨Y,Y⟩;have hml:(l.map eS).length=l.length:=ah;have hlen:∀i,i<=l.length->((l.take i).flatMap (jO t)).length<=54:=fun i hi=>by
  have:((l.take i).flatMap (jO t)).length<=(ko l t).length:=by
   conv=>rhs;rw[ko,<-List.take_append_drop i l,List.flatMap_append,List.length_append]
   omega
  omega
 refine Ret.of_pwp layOk mixed Go.Proofs.Tryz.func250 O Y O O ?_;refine H ?_;refine aE (Ghost.nilreg (k:=5) (t:=5) 303 8 1 O O) ?_;refine ap (fun i:Nat=>i<=l.length) (fun i=>[(3,.ptr 3 1 0 0),(5,.als 5 (((l.take i).flatMap (jO t)).length+1) 0 (((l.take i).flatMap (jO t)).map bD).length),(12,.sl (l.map eS)),(13,I l.length),(14,I (i:Nat))])
  (fun i=>[(3,1,⟨42,4,[eR tr],2⟩),(5,((l.take i).flatMap (jO t)).length+1,⟨303,8,((l.take i).flatMap (jO t)).map bD,1⟩)]) (fun i=>l.length-i) 0 (Nat.zero_le _) ⟨O,O,O,by rw[<-hml];rfl,O,O,O,trivial⟩ ?_
 intro i s hi;refine D ?_ ?_<;>intro h
 .have hlt:i<l.length:=by have:=aC h;omega
  clear h;obtain⟨x,hx⟩:=aJ hlt;have hxm:=bc hx;have hxl:=hl.1 x hxm;have hkc:=cY hck x hxm;obtain⟨h40,hSM,-,-⟩:=eM hkc;have hk8:=h8 x hxm;have hfl:(l.take (i+1)).flatMap (jO t)=(l.take i).flatMap (jO t)++jO t x:=by rw[bC hx,List.flatMap_append];simp
  have hA:=hlen i hi;have hA1:=hlen (i+1) hlt;rw[hfl,List.length_append,nX]at hA1;generalize (l.take i).flatMap (jO t)=A at *
  have hw:=fc i;have hzx:Zb x.x:=aK hxl.x.1 hxl.x.2;have e1:=bG x.x hxl.x;have e2:=eW tr (ofQ (x.x:Rat)) J Y;have v2:Vq (ofQ (t*(x.x:Rat))) (t*(x.x:Rat)) (m+1+4):=Vq.ofQ (h:=@HQ.mul _ _ (m+1) 4 ht.hq HQ.int);have e3:=cJ x.c (ofQ (t*(x.x:Rat))) (hx:=hxl.c.v) (hy:=v2) Y J;rw[show x.c.val+t*(x.x:Rat)=lC x t from O]at e3;have vb:Vq (ofQ (lC x t)) (lC x t) (13+(m+1+4)+1):=Vq.ofQ (h:=yd hxl ht.hq);have hMl:(x.k.M.map eR).length=x.k.S.length:=by simp[hSM]
  refine aS hx ?_
  (repeat ((fail_if_success (with_reducible refine aQ 5 ?_));refine cx O ?_))
  refine aE (fM 8) ?_;refine aZ 8 1 [18,19,20,21,22,23,24,25,8] [] aT O ?_;refine G e1 ?_;refine G e2 ?_;refine G e3 ?_;refine G hw0 ?_;refine H ?_;refine bH [(3,.ptr 3 1 0 0),(5,.als 5 (A.length+1) 0 (A.map bD).length),(7,.ptr 7 ((s.own 7).1+1) 0 0),(8,.ptr 8 ((s.own 8).1+2+1) 0 0),(9,.ptr 9 ((s.own 9).1+1) 0 0),(12,.sl (l.map eS)),(13,I l.length),(14,I (i:Nat)),(29,.sl (x.k.M.map eR)),(30,I (x.k.M.map eR).length),(31,I ((0:Nat):Int))]
   [(3,1,⟨42,4,[eR tr],2⟩),(5,A.length+1,⟨303,8,A.map bD,1⟩),(7,(s.own 7).1+1,⟨136,7,[eS x],2⟩),(8,(s.own 8).1+2+1,⟨42,4,[eR (ofQ (lC x t))],2⟩),(9,(s.own 9).1+1,⟨42,4,[eR (Fc x.k 0)],2⟩)]
   ⟨O,O,O,O,O,O,O,O,O,O,O,O,O,O,O,O,trivial⟩ ?_
  generalize (s.own 7).1+1=g7;generalize (s.own 8).1+2+1=g8;generalize (s.own 9).1+1=g9;rw[hMl];intro s1;refine ap (fun k:Nat=>k<=x.k.S.length) (fun k=>[(3,.ptr 3 1 0 0),(5,.als 5 (A.length+k+1) 0 ((A++(List.range k).map (bn x t)).map bD).length),(7,.ptr 7 g7 0 0),(8,.ptr 8 g8 0 0),(9,.ptr 9 g9 0 0),(12,.sl (l.map eS)),(13,I l.length),(14,I (i:Nat)),(29,.sl (x.k.M.map eR)),(30,I x.k.S.length),(31,I (k:Nat))])
   (fun k=>[(3,1,⟨42,4,[eR tr],2⟩),(5,A.length+k+1,⟨303,8,(A++(List.range k).map (bn x t)).map bD,1⟩),(7,g7,⟨136,7,[eS x],2⟩),(8,g8,⟨42,4,[eR (ofQ (lC x t))],2⟩),(9,g9,⟨42,4,[eR (Fc x.k k)],2⟩)]) (fun k=>x.k.S.length-k) 0 (Nat.zero_le _)
   ⟨O,by rw[List.range_zero,List.map_nil,List.append_nil];rfl,O,O,O,O,O,O,O,O,O,O,by rw[List.range_zero,List.map_nil,List.append_nil];rfl,O,O,O,trivial⟩ ?_
  intro k s2 hk;refine D ?_ ?_<;>intro h
  .have hlk:k<x.k.S.length:=by have:=aC h;omega
   clear h;have hsx:=bi (d:=0) hlk;have hmx:=bi (l:=x.k.M) (i:=k) (d:=RR.zero) J;have hxb:=nJ hxl.k k;have hzb:Zb (x.k.S.getD k 0):=aK hxb.1 hxb.2;have f1:=bG (x.k.S.getD k 0) hxb;rw[show((x.k.S.getD k 0:Int):Rat)=x.k.s k from O]at f1;have vs:Vq (ofQ (x.k.s k)) (x.k.s k) 4:=Vq.ofQ (h:=HQ.int);have f2:=jc (ofQ (x.k.s k)) (ofQ (lC x t)) (hx:=vs) (hy:=vb) Y J;have f3:=jc (x.k.M.getD k RR.zero) (Fc x.k k) (hx:=uK x.k hxl.k k) (hy:=qH x.k hxl.k k) Y Y;have hwk:IntKind.i64.wrap (((k:Nat):Int)+1)=((k+1:Nat):Int):=by rw[wrap_i64 J J];omega
   have hrow:(A++(List.range (k+1)).map (bn x t)).map bD=(A++(List.range k).map (bn x t)).map bD++[eR (ofQ (x.k.s k-lC x t))++eR (ofQ (x.k.m k-bI x.k.m k))]:=by rw[xi,<-List.append_assoc,List.map_append];rfl
   have hal:(A++(List.range k).map (bn x t)).length<=54:=by simp;omega
   generalize A++(List.range k).map (bn x t)=Ak at *
   generalize ofQ (x.k.s k-lC x t)=N1 at *
   generalize ofQ (x.k.m k-bI x.k.m k)=N2 at *
   generalize ofQ (x.k.s k)=N3 at *
   refine aS hmx ?_;refine H ?_;refine bS [50,5] [14,15,16] aT ?_;refine aS hsx ?_;refine G f1 ?_;refine G f2 ?_;refine G f3 ?_;refine H ?_;refine qj O O O (bx 1 O O O O O O O O O O O aI O ⟨g_ O,?_⟩);refine H ?_;refine qj O O O (bQ 1 O O O O O O O O O O O aI (by intro row hr;first|(simp at hr;subst hr;rfl)|(simp at hr;obtain⟨_,_,rfl⟩:=hr;rfl)|simp at hr) O O aU aU ⟨g_ O,?_⟩);refine H ?_;refine⟨k+1,hlk,J,O,?_,O,O,O,O,O,O,O,O,congrArg I hwk,O,?_,O,O,O,trivial⟩
   .rw[hrow];rfl
   .rw[hrow];rfl
  .have hke:k=x.k.S.length:=by have:=aG h;omega
   clear h;subst hke;rw[show(List.range x.k.S.length).map (bn x t)=jO t x from O];have hgl:A.length+x.k.S.length=((l.take (i+1)).flatMap (jO t)).length:=by rw[hfl,List.length_append,nX]
   rw[<-hfl,hgl];refine H ?_;exact⟨i+1,hlt,J,O,O,O,O,congrArg I hw,O,O,trivial⟩
 .have hie:i=l.length:=by have:=aG h;omega
  clear h;subst hie;rw[List.take_length];rw[show l.flatMap (jO t)=ko l t from O];have hsz:∀p∈ko l t,p.at'.sz 7000000:=fun p hp=>by
   obtain⟨s,hs,k,hk,rfl⟩:=Cf hp;have:=eP (yg (hl.1 s hs) ht.hq k).ok;exact⟨by have:=this.1;show(ofQ (s.k.s k-lC s t)).n.l.length<=7000000;omega,by have:=this.2;show(ofQ (s.k.s k-lC s t)).d.l.length<=7000000;omega⟩
  ((repeat ((fail_if_success (with_reducible refine aQ 14 ?_));refine cx O ?_));refine aM 1 ?_)
  refine fB O ?_;refine aY ?_;refine aV O (hS.run O O hsz ⟨O,trivial⟩ fun s1=>?_);rw[show b8 bz (ko l t)=Ce l t from O];have hol:(Ce l t).length=(ko l t).length:=dJ _ _;have hol2:((ko l t).map bD).length=((Ce l t).map bD).length:=by simp[hol]
  rw[hol2];refine aO ?_;refine H ?_;exact iq O O O aI O
def prB (n:BN):Rat × Rat:=(n.at'.val,n.up.val)
def gD (b:BR)(t:Rat):Rat:=BS (b.w:Rat) ((Ce b.l t).map prB) 0 0 0
theorem Ff {l:List SR}{t:Rat}{n:BN}(h:n∈Ce l t):∃s∈l,∃k,k<s.k.S.length/\n=bn s t k:=Cf ((gC bz _).mem_iff.1 h)
theorem uT {q:Rat}:ofQ (ofQ q).val=ofQ q:=by rw[ofQ_val]
set_option maxRecDepth 20000 in
theorem vG (b:BR)(hb:b.Ok){t:Rat}{m:Nat}(h40:(ko b.l t).length<=54)(hS:SortC (ko b.l t))(tr:RR)[ht:Vq tr t m](hm:m<=60000):Ret Tryz.prog .shared 204 [.agg (eB b),.agg (eR tr)] (.agg (eA ⟨ofQ (gD b t),ofQ t⟩)):=by
 have hw0:=bG 0 ⟨Y,Y⟩;rw[show(((0:Int):Rat))=0 from O]at hw0;have hww:=bG b.w hb.lim.w;have zw:Zb b.w:=aK hb.lim.w.1 hb.lim.w.2;have vw:Vq (ofQ (b.w:Rat)) (b.w:Rat) 4:=Vq.ofQ (h:=HQ.int);have hbe:=tS b.l hb.lim.l hb.chkL hb.few.2 (by have:=hb.few.1;omega) tr (m:=m) J h40 hS;have hlow:=FK tr J;have hol:(Ce b.l t).length=(ko b.l t).length:=dJ _ _;have hol40:(Ce b.l t).length<=54:=J;have hat:∀n∈Ce b.l t,n.at'=ofQ n.at'.val/\n.up=ofQ n.up.val/\HQ n.at'.val (m+30)/\HQ n.up.val 27:=fun n hn=>by
  obtain⟨s,hs,k,hk,rfl⟩:=Ff hn;refine⟨uT.symm,uT.symm,?_,?_⟩
  .show HQ (ofQ (s.k.s k-lC s t)).val (m+30);rw[ofQ_val];exact(yg (hb.lim.l.1 s hs) ht.hq k).mono J
  .show HQ (ofQ (s.k.m k-bI s.k.m k)).val 27;rw[ofQ_val];exact pr (hb.lim.l.1 s hs).k k
 generalize hZ:gD b t=Z;rw[gD]at hZ;generalize Ce b.l t=B at *
 have hml:(B.map bD).length=B.length:=ah;obtain⟨w,ba,l⟩:=b;simp only at *
 generalize (w:Rat)=W at *
 refine Ret.of_pwp layOk mixed Go.Proofs.Tryz.func204 O Y O O ?_;refine G hw0 ?_;refine G hw0 ?_;refine G hww ?_;refine G hw0 ?_;refine G hbe ?_;refine H ?_;refine ap (fun q:Nat × Rat × Rat × Rat=>q.1<=B.length/\BS W ((B.drop q.1).map prB) q.2.1 q.2.2.1 q.2.2.2=Z/\HQ q.2.1 (q.1*(2*m+1700)+4)/\HQ q.2.2.1 (q.1*28+4)/\HQ q.2.2.2 (m+30)) (fun q=>[(3,.ptr 3 1 0 0),(4,.ptr 4 1 0 0),(5,.ptr 5 1 0 0),(6,.ptr 6 1 0 0),(7,.ptr 7 1 0 0),(8,.ptr 8 1 0 0),(21,.sl (B.map bD)),(22,I B.length),(23,I (q.1:Nat))])
  (fun q=>[(3,1,⟨42,4,[eR tr],2⟩),(4,1,⟨45,8,[zN++zN],2⟩),(5,1,⟨42,4,[eR (ofQ q.2.1)],2⟩),(6,1,⟨42,4,[eR (ofQ q.2.2.1)],2⟩),(7,1,⟨42,4,[eR (ofQ W)],2⟩),(8,1,⟨42,4,[eR (ofQ q.2.2.2)],2⟩)]) (fun q=>B.length-q.1) (0,0,0,0)
  ⟨Nat.zero_le _,by rw[List.drop_zero];exact hZ,HQ.zero.mono J,HQ.zero.mono J,HQ.zero.mono J⟩ ⟨O,O,O,O,O,O,O,by rw[<-hml];rfl,O,O,O,O,O,O,O,trivial⟩ ?_
 rintro⟨i,c,k,a⟩ s ⟨hi,hS,hc,hk,ha⟩;simp only at hi hS hc hk ha;dsimp only;have hcb:i*(2*m+1700)+4<=54*(2*m+1700)+4:=by have:=Nat.mul_le_mul (show i<=54 by omega) (Nat.le_refl (2*m+1700));omega
 have vk:Vq (ofQ k) k (i*28+4):=Vq.ofQ (h:=hk);have vc:Vq (ofQ c) c (i*(2*m+1700)+4):=Vq.ofQ (h:=hc);have va:Vq (ofQ a) a (m+30):=Vq.ofQ (h:=ha);have sgk:=pM (ofQ k) (hx:=vk) J;have hsk:=iS k;have t1:=jc (ofQ W) (ofQ c) (hx:=vw) (hy:=vc) Y J;have u1:Vq (ofQ (W-c)) (W-c) (4+(i*(2*m+1700)+4)+1):=Vq.ofQ (h:=@HQ.sub _ _ 4 _ (ej vw) hc);generalize hgk:sgn k=gk at *
 refine D ?_ ?_<;>intro h
 .have hlt:i<B.length:=by have:=aC h;omega
  clear h;obtain⟨x,hx⟩:=aJ hlt;obtain⟨x1,x2,x3,x4⟩:=hat x (bc hx);have hdr:(B.drop i).map prB=prB x::(B.drop (i+1)).map prB:=by
   obtain⟨hl1,h2⟩:=bb hx;rw[List.drop_eq_getElem_cons hl1,h2];rfl
  rw[hdr,BS]at hS;have hw:=fc i;obtain⟨xa,xu⟩:=x;obtain⟨p,rfl⟩:∃p,xa=ofQ p:=⟨_,x1⟩;obtain⟨u,rfl⟩:∃u,xu=ofQ u:=⟨_,x2⟩;clear x1 x2;simp only[prB,ofQ_val]at hS x3 x4;have vp:Vq (ofQ p) p (m+30):=Vq.ofQ (h:=x3);have vu:Vq (ofQ u) u 27:=Vq.ofQ (h:=x4);have e1:=jc (ofQ p) (ofQ a) (hx:=vp) (hy:=va) J J;have w1:Vq (ofQ (p-a)) (p-a) (m+30+(m+30)+1):=Vq.ofQ (h:=@HQ.sub _ _ _ _ x3 ha);have e2:=eW (ofQ k) (ofQ (p-a)) (hx:=vk) (hy:=w1) J J;have w2:Vq (ofQ (k*(p-a))) (k*(p-a)) (i*28+4+(m+30+(m+30)+1)):=Vq.ofQ (h:=@HQ.mul _ _ _ _ hk (ej w1));have e3:=cJ (ofQ c) (ofQ (k*(p-a))) (hx:=vc) (hy:=w2) J J;have h3:HQ (c+k*(p-a)) ((i+1)*(2*m+1700)+4):=(@HQ.add _ _ _ _ hc (ej w2)).mono (by rw[Nat.add_mul];omega);have w3:Vq (ofQ (c+k*(p-a))) (c+k*(p-a)) ((i+1)*(2*m+1700)+4):=Vq.ofQ (h:=h3);have hcb1:(i+1)*(2*m+1700)+4<=55*(2*m+1700)+4:=by have:=Nat.mul_le_mul (show i+1<=55 by omega) (Nat.le_refl (2*m+1700));omega
  have e4:=i9 (ofQ (c+k*(p-a))) (ofQ W) (hx:=w3) (hy:=vw) J Y;have hs4:=Ee (c+k*(p-a)-W);have e5:=cJ (ofQ k) (ofQ u) (hx:=vk) (hy:=vu) J Y;have h5:HQ (k+u) ((i+1)*28+4):=(@HQ.add _ _ _ _ hk x4).mono J;have h6:HQ c ((i+1)*(2*m+1700)+4):=hc.mono (by rw[Nat.add_mul];omega);by_cases hkp:0<k
  .have hkg:0<gk:=by rw[<-hgk];exact(iS k).2 hkp
   rw[if_pos hkp]at hS;by_cases hr:W<=c+k*(p-a)
   .rw[if_pos hr]at hS;have hr4:0<=sgn (c+k*(p-a)-W):=hs4.2 aW;have t2:=uX (ofQ (W-c)) (ofQ k) (hx:=u1) (hy:=vk) J J aW;have u2:Vq (ofQ ((W-c)/k)) ((W-c)/k) (4+(i*(2*m+1700)+4)+1+(i*28+4)):=Vq.ofQ (h:=@HQ.div _ _ _ _ (ej u1) hk);have t3:=cJ (ofQ a) (ofQ ((W-c)/k)) (hx:=va) (hy:=u2) J J;rw[hS]at t3;generalize sgn (c+k*(p-a)-W)=g4 at *
    generalize ofQ (c+k*(p-a))=Y1 at *
    refine aS hx ?_;refine ar sgk ?_;refine D ?_ ?_<;>intro h
    .clear h
     (repeat ((fail_if_success (with_reducible refine aQ 8 ?_));refine cx O ?_))
     refine aE (fM 11) ?_;refine aZ 8 1 [30,31,32,33,34,35,36,37,11] [] aT O ?_;refine G e1 ?_;refine G e2 ?_;refine G e3 ?_;refine ar e4 ?_;refine D ?_ ?_<;>intro h
     .clear h;refine ar sgk ?_;refine D ?_ ?_<;>intro h
      .clear h;refine cn 7 [53,54,55,56,57,58,59] ?_;refine G t1 ?_;refine G t2 ?_;refine G t3 ?_;refine cn 4 [60,61,62,63] ?_;refine G hlow ?_;exact bV
      .exact absurd hkg (aG h)
     .exact absurd hr4 (aG h)
    .exact absurd hkg (aG h)
   .rw[if_neg hr]at hS;have hr4:¬0<=sgn (c+k*(p-a)-W):=fun h=>by have:=hs4.1 h;grind
    generalize sgn (c+k*(p-a)-W)=g4 at *
    generalize hY1:ofQ (c+k*(p-a))=Y1 at *
    generalize hY2:ofQ (k+u)=Y2 at *
    refine aS hx ?_;refine ar sgk ?_;refine D ?_ ?_<;>intro h
    .clear h
     (repeat ((fail_if_success (with_reducible refine aQ 8 ?_));refine cx O ?_))
     refine aE (fM 11) ?_;refine aZ 8 1 [30,31,32,33,34,35,36,37,11] [] aT O ?_;refine G e1 ?_;refine G e2 ?_;refine G e3 ?_;refine ar e4 ?_;refine D ?_ ?_<;>intro h
     .exact absurd (aC h) hr4
     .clear h;refine G e5 ?_;refine H ?_;refine⟨(i+1,c+k*(p-a),k+u,p),⟨hlt,hS,h3,h5,x3⟩,by simp only;omega,O,O,O,O,O,O,O,O,congrArg I hw,O,O,by rw[<-hY1];rfl,by rw[<-hY2];rfl,O,O,trivial⟩
    .exact absurd hkg (aG h)
  .have hkg:¬0<gk:=fun h=>hkp (by rw[<-hgk]at h;exact(iS k).1 h);rw[if_neg hkp]at hS;generalize hY2:ofQ (k+u)=Y2 at *
   refine aS hx ?_;refine ar sgk ?_;refine D ?_ ?_<;>intro h
   .exact absurd (aC h) hkg
   .clear h;refine G e5 ?_;refine H ?_;refine⟨(i+1,c,k+u,p),⟨hlt,hS,h6,h5,x3⟩,by simp only;omega,O,O,O,O,O,O,O,O,congrArg I hw,O,O,O,by rw[<-hY2];rfl,O,O,trivial⟩
 .have hie:i=B.length:=by have:=aG h;omega
  clear h;rw[hie,List.drop_length,List.map_nil,BS]at hS;by_cases hkp:0<k
  .have hkg:0<gk:=by rw[<-hgk];exact(iS k).2 hkp
   rw[if_pos hkp]at hS;have t2:=uX (ofQ (W-c)) (ofQ k) (hx:=u1) (hy:=vk) J J aW;have u2:Vq (ofQ ((W-c)/k)) ((W-c)/k) (4+(i*(2*m+1700)+4)+1+(i*28+4)):=Vq.ofQ (h:=@HQ.div _ _ _ _ (ej u1) hk);have t3:=cJ (ofQ a) (ofQ ((W-c)/k)) (hx:=va) (hy:=u2) J J;rw[hS]at t3;refine ar sgk ?_;refine D ?_ ?_<;>intro h
   .clear h;refine cn 7 [53,54,55,56,57,58,59] ?_;refine G t1 ?_;refine G t2 ?_;refine G t3 ?_;refine cn 4 [60,61,62,63] ?_;refine G hlow ?_;exact bV
   .exact absurd hkg (aG h)
  .have hkg:¬0<gk:=fun h=>hkp (by rw[<-hgk]at h;exact(iS k).1 h);rw[if_neg hkp]at hS;refine ar sgk ?_;refine D ?_ ?_<;>intro h
   .exact absurd (aC h) hkg
   .clear h;refine cn 4 [60,61,62,63] ?_;refine G hlow ?_;refine H ?_;exact wP O aI O aI (by rw[<-hS];rfl)
theorem il {b:BR}(hb:b.Ok):(bd b).Ok:=by
 refine⟨fun i hi=>zY (cY hb.chkL _ (br hi)),?_⟩;have:=(tT hb.chk).1;show(0:Rat)<(b.w:Rat);have h:(0:Int)<b.w:=J
 exact_mod_cast h
theorem Iy {c:CR}(hc:c.Lim){p:Nat}(hp:p<=8):HQ (ke c.s c.m p) 300:=by
 rw[ke];refine(bw (m:=31) p fun k _=>?_).mono J;have hb:=nJ hc k;have hzb:Zb (c.S.getD k 0):=aK hb.1 hb.2;exact @HQ.mul _ _ 27 4 (pr hc k) HQ.int
theorem As {b:BR}(hb:b.Ok)(p:Nat->Nat){i:Nat}(hi:i<b.l.length):HQ ((bd b).k p i) 13:=(qH _ (hb.lim.l.1 _ (br hi)).k (p i)).hq
theorem EY {b:BR}(hb:b.Ok){i:Nat}(hi:i<b.l.length):HQ ((bd b).X i) 4:=by
 have hx:=(hb.lim.l.1 _ (br hi)).x;have hx:Zb (b.l.getD i dS).x:=aK hx.1 hx.2;exact HQ.int
theorem BW {b:BR}(hb:b.Ok)(p:Nat->Nat):HQ ((bd b).Kh p) 300:=(bw (m:=13) b.l.length fun i hi=>As hb p hi).mono (by have:=hb.few.1;omega)
theorem BV {b:BR}(hb:b.Ok)(p:Nat->Nat):HQ ((bd b).Kc p) 300:=(bw (m:=17) b.l.length fun i hi=>@HQ.mul _ _ 13 4 (As hb p hi) (EY hb hi)).mono (by have:=hb.few.1;omega)
theorem Hf {b:BR}(hb:b.Ok)(p:Nat->Nat):HQ ((bd b).Kp p) 300:=(bw (m:=21) b.l.length fun i hi=>@HQ.mul _ _ 17 4 (@HQ.mul _ _ 13 4 (As hb p hi) (EY hb hi)) (EY hb hi)).mono (by have:=hb.few.1;omega)
theorem C7 {b:BR}(hb:b.Ok){p:Nat->Nat}(hp:∀i,i<b.l.length->p i<=(bd b).n i){i:Nat}(hi:i<b.l.length):HQ ((bd b).k p i*(bd b).C i-(bd b).o p i) 327:=by
 have h8:=hb.few.2 _ (br hi);have hpi:=hp i hi;have hc:HQ ((bd b).C i) 13:=(hb.lim.l.1 _ (br hi)).c.v.hq;exact @HQ.sub _ _ 26 300 (@HQ.mul _ _ 13 13 (As hb p hi) hc) (Iy (hb.lim.l.1 _ (br hi)).k (Nat.le_trans hpi h8))
theorem He {b:BR}(hb:b.Ok){p:Nat->Nat}(hp:∀i,i<b.l.length->p i<=(bd b).n i):HQ ((bd b).Fo p) 4100:=(bw (m:=327) b.l.length fun i hi=>C7 hb hp hi).mono (by have:=hb.few.1;omega)
theorem Jl {b:BR}(hb:b.Ok){p:Nat->Nat}(hp:∀i,i<b.l.length->p i<=(bd b).n i):HQ ((bd b).Go p) 4100:=(bw (m:=331) b.l.length fun i hi=>@HQ.mul _ _ 327 4 (C7 hb hp hi) (EY hb hi)).mono (by have:=hb.few.1;omega)
theorem ym {z X D0:Rat}(hd:D0≠0):z+(X-z*D0)/D0=X/D0:=by grind
theorem Fm {h c p z t F G0 w M:Rat}(hd:h*p-c*c≠0):z+(p*(w-(h*z+c*t+F))-c*(M-(c*z+p*t+G0)))/(h*p-c*c)=(p*(w-F)-c*(M-G0))/(h*p-c*c):=by
 rw[show p*(w-(h*z+c*t+F))-c*(M-(c*z+p*t+G0))=(p*(w-F)-c*(M-G0))-z*(h*p-c*c) by grind,ym hd]
theorem Fn {h c p z t F G0 w M:Rat}(hd:h*p-c*c≠0):t+(h*(M-(c*z+p*t+G0))-c*(w-(h*z+c*t+F)))/(h*p-c*c)=(h*(M-G0)-c*(w-F))/(h*p-c*c):=by
 rw[show h*(M-(c*z+p*t+G0))-c*(w-(h*z+c*t+F))=(h*(M-G0)-c*(w-F))-t*(h*p-c*c) by grind,ym hd]
theorem yM {b:BR}(hb:b.Ok){p:Nat->Nat}{z t:Rat}(hp:(bd b).Inc p z t){d:Rat × Rat}(h:Bd.newt ((bd b).Kh p) ((bd b).Kc p) ((bd b).Kp p) ((bd b).w-(bd b).F z t) (-((bd b).e z t))=some d):HQ (z+d.1) 20000/\HQ (t+d.2) 20000:=by
 have hpn:∀i,i<b.l.length->p i<=(bd b).n i:=fun i hi=>(hp i hi).1;have hw:Zb b.w:=aK hb.lim.w.1 hb.lim.w.2;have e1:=Bd.F_at (il hb) hp;have e2:=Bd.G_at (il hb) hp;rw[Bd.newt]at h;split at h
 .cases h
 .rename_i hd;cases h;have hf : -((bd b).e z t)=(bd b).w*(bd b).A-(bd b).G0 z t:=by rw[Bd.e];grind
  simp only;rw[hf,e1,e2,Fm hd,Fn hd];have kh:=BW hb p;have kc:=BV hb p;have kp:=Hf hb p;have fo:=He hb hpn;have go:=Jl hb hpn;have wq:HQ ((bd b).w) 4:=HQ.int;have wa:HQ ((bd b).w*(bd b).A) 17:=zC hb;have f1:=@HQ.sub _ _ 4 4100 wq fo;have g1:=@HQ.sub _ _ 17 4100 wa go;have dt:=@HQ.sub _ _ _ _ (@HQ.mul _ _ 300 300 kh kp) (@HQ.mul _ _ 300 300 kc kc);exact⟨(@HQ.div _ _ _ _ (@HQ.sub _ _ _ _ (@HQ.mul _ _ _ _ kp f1) (@HQ.mul _ _ _ _ kc g1)) dt).mono J,(@HQ.div _ _ _ _ (@HQ.sub _ _ _ _ (@HQ.mul _ _ _ _ kh g1) (@HQ.mul _ _ _ _ kc f1)) dt).mono J⟩
def Hs (o:Option (Rat × Rat)):PV:=match o with
 |none => .tup [.agg (zN++zN),.bool false]
 |some x => .tup [.agg (eA ⟨ofQ x.1,ofQ x.2⟩),.bool true]
theorem zz {x:RR}{p:Rat}{n m:Nat}(h:Vq x p n)(hm:n<=m):Vq x p m:=⟨h.val,Nat.le_trans h.sz.1 hm,Nat.le_trans h.sz.2 hm⟩
theorem CY {b:BR}(hb:b.Ok)(z t:Rat):(bd b).Inc ((bd b).pR z t) z t:=fun i hi=>(IC (n:=(bd b).n i) (S:=(bd b).S i) (y:=(bd b).y z t i)).c
theorem Hu {b:BR}(hb:b.Ok)(z t:Rat):(bd b).Inc ((bd b).pL z t) z t:=fun i hi=>(w_ (n:=(bd b).n i) (S:=(bd b).S i) (y:=(bd b).y z t i)).c
def Kx (b:BR)(p:Nat->Nat):PV := .agg (eK (ofQ ((bd b).Kh p)) (ofQ ((bd b).Kc p)) (ofQ ((bd b).Kp p)))
theorem xU (b:BR)(hb:b.Ok)(a:AR){z t:Rat}{n m:Nat}[ha:Va a z t n m](hn:n+m<=60000):Ret Tryz.prog .shared 254 [.sl (b.l.map eS),.clo 280 [.dref (eA a) 0]] (Kx b ((bd b).pR z t)) :=
 rR b.l hb.lim.l hb.few 280 (eA a) (fun s=>ofQ (bI s.k.m (nF s.k.s (yQ s z t) s.k.S.length))) ((bd b).k ((bd b).pR z t)) (fun s hs=>pG s (hb.lim.l.1 s hs) (cY hb.chkL s hs) a J)
  (fun i hi=>zz (Vq.ofQ (h:=As hb ((bd b).pR z t) hi)) Y)
theorem xT (b:BR)(hb:b.Ok)(a:AR){z t:Rat}{n m:Nat}[ha:Va a z t n m](hn:n+m<=60000):Ret Tryz.prog .shared 254 [.sl (b.l.map eS),.clo 282 [.dref (eA a) 0]] (Kx b ((bd b).pL z t)) :=
 rR b.l hb.lim.l hb.few 282 (eA a) (fun s=>Az s.k (yQ s z t) s.k.S.length) ((bd b).k ((bd b).pL z t)) (fun s hs=>ra s (hb.lim.l.1 s hs) (cY hb.chkL s hs) a J)
  (fun i hi=>zz (C_ (hb.lim.l.1 _ (br hi)).k _ _) Y)
structure TryC (b:BR) (a:AR) (z t:Rat) (fo mo:RR) (p:Nat->Nat) (d:Option (Rat × Rat)):Prop where
 mv:Ret Tryz.prog .shared 253 [Kx b p,.agg (eR fo),.agg (eR mo)] (pq d)
 af:∀x,d=some x->Ret Tryz.prog .shared 256 [.agg (eA a),.agg (eA ⟨ofQ x.1,ofQ x.2⟩)] (.agg (eA ⟨ofQ (z+x.1),ofQ (t+x.2)⟩))
 ba:∀x,d=some x->Ret Tryz.prog .shared 255 [.agg (eB b),.agg (eA ⟨ofQ (z+x.1),ofQ (t+x.2)⟩)] (.bool (decide ((bd b).Bal (z+x.1) (t+x.2))))
theorem Kt (b:BR)(hb:b.Ok)(a:AR){z t:Rat}{n m:Nat}(ha:Va a z t n m)(hn:n+m<=50000){p:Nat->Nat}(hp:(bd b).Inc p z t) :
  TryC b a z t (ofQ ((bd b).w-(bd b).F z t)) (ofQ (-((bd b).e z t))) p (Bd.newt ((bd b).Kh p) ((bd b).Kc p) ((bd b).Kp p) ((bd b).w-(bd b).F z t) (-((bd b).e z t))):=by
 have hw:Zb b.w:=aK hb.lim.w.1 hb.lim.w.2;have wq:HQ ((bd b).w) 4:=HQ.int;have hF:HQ ((bd b).w-(bd b).F z t) (96*(n+m+62)+400):=(@HQ.sub _ _ 4 (96*((n+1)+(m+1)+60)+200) wq (HX hb.lim.l hb.few ha.z.hq ha.t.hq)).mono J;have hE:HQ (-((bd b).e z t)) (96*(n+m+62)+400):=(@HQ.neg _ _ (Il hb ha.z.hq ha.t.hq)).mono J;have hd:∀x,Bd.newt ((bd b).Kh p) ((bd b).Kc p) ((bd b).Kp p) ((bd b).w-(bd b).F z t) (-((bd b).e z t))=some x->HQ (z+x.1) 20000/\HQ (t+x.2) 20000:=fun x hx=>yM hb hp hx;refine⟨AH _ _ _ _ _ (a:=300) (b:=96*(n+m+62)+400) (Vq.ofQ (h:=BW hb p)) (Vq.ofQ (h:=BV hb p)) (Vq.ofQ (h:=Hf hb p)) (Vq.ofQ (h:=hF)) (Vq.ofQ (h:=hE)) Y J,fun x hx=>?_,fun x hx=>?_⟩
 .obtain⟨h1,h2⟩:=hd x hx;have q1:HQ x.1 (20000+(n+1)+1):=by
   have:=@HQ.sub _ _ 20000 (n+1) h1 ha.z.hq;rwa [show z+x.1-z=x.1 by grind]at this
  have q2:HQ x.2 (20000+(m+1)+1):=by
   have:=@HQ.sub _ _ 20000 (m+1) h2 ha.t.hq;rwa [show t+x.2-t=x.2 by grind]at this
  exact zL a ⟨ofQ x.1,ofQ x.2⟩ (hd:=⟨Vq.ofQ (h:=q1),Vq.ofQ (h:=q2)⟩) J J J J
 .obtain⟨h1,h2⟩:=hd x hx;exact r8 b hb ⟨ofQ (z+x.1),ofQ (t+x.2)⟩ (ha:=⟨Vq.ofQ (h:=h1),Vq.ofQ (h:=h2)⟩) Y
def By (b:BR)(z t:Rat):Option (Rat × Rat)->Option (Rat × Rat)
 |none=>none
 |some d=>if (bd b).Bal (z+d.1) (t+d.2) then some (z+d.1,t+d.2) else none
def Ja (b:BR)(z t:Rat)(p:Nat->Nat):Option (Rat × Rat):=Bd.newt ((bd b).Kh p) ((bd b).Kc p) ((bd b).Kp p) ((bd b).w-(bd b).F z t) (-((bd b).e z t))
theorem zo (b:BR)(z t:Rat)(p:Nat->Nat):(bd b).tryP z t p=By b z t (Ja b z t p):=by
 rw[Bd.tryP,Ja];cases Bd.newt ((bd b).Kh p) ((bd b).Kc p) ((bd b).Kp p) ((bd b).w-(bd b).F z t) (-((bd b).e z t))<;>rfl
set_option maxRecDepth 20000 in
theorem Aj (b:BR)(hb:b.Ok)(a:AR){z t:Rat}{n m:Nat}[ha:Va a z t n m](hn:n+m<=50000):Ret Tryz.prog .shared 206 [.agg (eB b),.agg (eA a)] (Hs ((bd b).guess z t)):=by
 have h1:=lw b.l hb.lim.l hb.chkL hb.few a J;have h2:=bG b.w hb.lim.w;have zw:Zb b.w:=aK hb.lim.w.1 hb.lim.w.2;have v1:Vq (ofQ (am (fI b.l z t) b.l.length)) (am (fI b.l z t) b.l.length) (96*(n+1+(m+1)+60)+200):=Vq.ofQ (h:=HX hb.lim.l hb.few ha.z.hq ha.t.hq);have h3:=jc (ofQ (b.w:Rat)) (ofQ (am (fI b.l z t) b.l.length)) (hy:=v1) Y J;rw[show(b.w:Rat)-am (fI b.l z t) b.l.length=(bd b).w-(bd b).F z t from O]at h3;have h4:=oV b hb a J;have v4:Vq (ofQ ((bd b).e z t)) ((bd b).e z t) (96*(n+1+(m+1)+60)+200+17+1):=Vq.ofQ (h:=Il hb ha.z.hq ha.t.hq);have h5:=JJ (ofQ ((bd b).e z t)) (hx:=v4) J;have h6:=rJ a;have h7:=uF a;have sR:=xU b hb a (z:=z) (t:=t) J;have sL:=xT b hb a (z:=z) (t:=t) J;have cR:=Kt b hb a ha hn (CY hb z t);have cL:=Kt b hb a ha hn (Hu hb z t);rw[show Bd.newt ((bd b).Kh ((bd b).pR z t)) ((bd b).Kc ((bd b).pR z t)) ((bd b).Kp ((bd b).pR z t)) ((bd b).w-(bd b).F z t) (-((bd b).e z t))=Ja b z t ((bd b).pR z t) from O]at cR;rw[show Bd.newt ((bd b).Kh ((bd b).pL z t)) ((bd b).Kc ((bd b).pL z t)) ((bd b).Kp ((bd b).pL z t)) ((bd b).w-(bd b).F z t) (-((bd b).e z t))=Ja b z t ((bd b).pL z t) from O]at cL;generalize hG:(bd b).guess z t=G0;rw[Bd.guess,zo,zo]at hG;generalize hPR:(bd b).pR z t=pR at *
 generalize hPL:(bd b).pL z t=pL at *
 obtain⟨m1,m2,m3⟩:=cR;obtain⟨l1,l2,l3⟩:=cL;generalize Ja b z t pR=oR at *
 generalize Ja b z t pL=oL at *
 rw[Kx]at sR sL m1 l1;generalize ofQ ((bd b).Kh pR)=R1 at *
 generalize ofQ ((bd b).Kc pR)=R2 at *
 generalize ofQ ((bd b).Kp pR)=R3 at *
 generalize ofQ ((bd b).Kh pL)=L1 at *
 generalize ofQ ((bd b).Kc pL)=L2 at *
 generalize ofQ ((bd b).Kp pL)=L3 at *
 generalize ofQ ((bd b).w-(bd b).F z t)=FO at *
 generalize ofQ (-((bd b).e z t))=MO at *
 generalize ofQ ((bd b).e z t)=EX at *
 generalize ofQ (am (fI b.l z t) b.l.length)=TF at *
 generalize ofQ (am (gI b.l z t) b.l.length)=TG at *
 refine Ret.of_pwp layOk mixed Go.Proofs.Tryz.func206 O Y O O ?_;refine G h1 ?_;refine H ?_;refine aZ 6 1 [21,22,23,24,25,26,8] [] aT O ?_;refine G h2 ?_;refine G h3 ?_;refine G h4 ?_;refine G h5 ?_;refine H ?_;refine bS [35] [4,5] aT ?_;refine G h6 ?_;refine G h7 ?_;refine H ?_;refine qj O O O (bx 2 O O O O O O O O O O O aI O ⟨g_ O,?_⟩);refine H ?_;refine ap (fun i:Nat=>(i=0/\(match By b z t oR with|some x=>some x|none=>By b z t oL)=G0)\/(i=1/\By b z t oL=G0)\/(i=2/\G0=none)) (fun i=>[(2,.ptr 2 1 0 0),(3,.ptr 3 1 0 0),(4,.ptr 4 1 0 0),(8,.ptr 8 1 0 0),(9,.ptr 9 1 0 0),(35,.als 35 1 0 2),(36,I 2),(37,I (i:Nat))])
  (fun _=>[(2,1,⟨158,6,[eB b],2⟩),(3,1,⟨45,8,[eA a],2⟩),(4,1,⟨45,8,[zN++zN],2⟩),(8,1,⟨42,4,[eR FO],2⟩),(9,1,⟨42,4,[eR MO],2⟩),(35,1,⟨273,1,[[.clo 280 [.dref (eA a) 0]],[.clo 282 [.dref (eA a) 0]]],2⟩)]) (fun i=>2-i) 0 (.inl ⟨O,hG⟩) ⟨O,O,O,O,O,O,O,O,O,O,O,O,O,O,trivial⟩ ?_
 intro i s hi;rcases hi with⟨rfl,hG⟩|⟨rfl,hG⟩|⟨rfl,hG⟩
 .cases oR with
  |none =>
   refine H ?_;refine bE O O (bO O O O O O O O Y Y) ?_;refine H ?_;refine bS [12] [10,11] aT ?_;refine G sR ?_;refine G m1 ?_;refine cn 8 [51,52,53,54,55,56,57,58] ?_;refine H ?_;exact⟨1,.inr (.inl ⟨O,hG⟩),Y,O,O,O,O,O,O,O,O,O,O,O,O,O,O,trivial⟩
  |some d =>
   have k1:=m2 d O;have k2:=m3 d O;rw[pq]at m1;rw[By]at hG;by_cases hbal:(bd b).Bal (z+d.1) (t+d.2)
   .rw[decide_eq_true hbal]at k2;rw[if_pos hbal]at hG;try simp only at hG
    subst hG;rw[Hs];dsimp only;generalize ofQ (z+d.1)=Y1 at *
    generalize ofQ (t+d.2)=Y2 at *
    generalize ofQ d.1=Y3 at *
    generalize ofQ d.2=Y4 at *
    refine H ?_;refine bE O O (bO O O O O O O O Y Y) ?_;refine H ?_;refine bS [12] [10,11] aT ?_;refine G sR ?_;refine G m1 ?_;refine cn 8 [51,52,53,54,55,56,57,58] ?_;refine G k1 ?_;refine ar k2 ?_;refine G k1 ?_;exact bV
   .rw[decide_eq_false hbal]at k2;rw[if_neg hbal]at hG;try simp only at hG
    generalize ofQ (z+d.1)=Y1 at *
    generalize ofQ (t+d.2)=Y2 at *
    generalize ofQ d.1=Y3 at *
    generalize ofQ d.2=Y4 at *
    refine H ?_;refine bE O O (bO O O O O O O O Y Y) ?_;refine H ?_;refine bS [12] [10,11] aT ?_;refine G sR ?_;refine G m1 ?_;refine cn 8 [51,52,53,54,55,56,57,58] ?_;refine G k1 ?_;refine ar k2 ?_;refine H ?_;exact⟨1,.inr (.inl ⟨O,hG⟩),Y,O,O,O,O,O,O,O,O,O,O,O,O,O,O,trivial⟩
 .cases oL with
  |none =>
   refine H ?_;refine bE O O (bO O O O O O O O Y Y) ?_;refine H ?_;refine bS [12] [10,11] aT ?_;refine G sL ?_;refine G l1 ?_;refine cn 8 [51,52,53,54,55,56,57,58] ?_;refine H ?_;exact⟨2,.inr (.inr ⟨O,hG.symm⟩),Y,O,O,O,O,O,O,O,O,O,O,O,O,O,O,trivial⟩
  |some d =>
   have k1:=l2 d O;have k2:=l3 d O;rw[pq]at l1;rw[By]at hG;by_cases hbal:(bd b).Bal (z+d.1) (t+d.2)
   .rw[decide_eq_true hbal]at k2;rw[if_pos hbal]at hG;try simp only at hG
    subst hG;rw[Hs];dsimp only;generalize ofQ (z+d.1)=Y1 at *
    generalize ofQ (t+d.2)=Y2 at *
    generalize ofQ d.1=Y3 at *
    generalize ofQ d.2=Y4 at *
    refine H ?_;refine bE O O (bO O O O O O O O Y Y) ?_;refine H ?_;refine bS [12] [10,11] aT ?_;refine G sL ?_;refine G l1 ?_;refine cn 8 [51,52,53,54,55,56,57,58] ?_;refine G k1 ?_;refine ar k2 ?_;refine G k1 ?_;exact bV
   .rw[decide_eq_false hbal]at k2;rw[if_neg hbal]at hG;try simp only at hG
    generalize ofQ (z+d.1)=Y1 at *
    generalize ofQ (t+d.2)=Y2 at *
    generalize ofQ d.1=Y3 at *
    generalize ofQ d.2=Y4 at *
    refine H ?_;refine bE O O (bO O O O O O O O Y Y) ?_;refine H ?_;refine bS [12] [10,11] aT ?_;refine G sL ?_;refine G l1 ?_;refine cn 8 [51,52,53,54,55,56,57,58] ?_;refine G k1 ?_;refine ar k2 ?_;refine H ?_;exact⟨2,.inr (.inr ⟨O,hG.symm⟩),Y,O,O,O,O,O,O,O,O,O,O,O,O,O,O,trivial⟩
 .subst hG;exact bV
def rV (s:SR)(z t:Rat):Rat:=bI s.k.m (nF s.k.s (yQ s z t) s.k.S.length)
def lV (s:SR)(z t:Rat):Rat:=bI s.k.m (ry s.k.s (yQ s z t) s.k.S.length)
def rn (z t A B:Rat)(s:SR):Bool:=decide (¬((0<A+B*(s.x:Rat)/\rV s z t≠0)\/(A+B*(s.x:Rat)<0/\lV s z t≠0)))
def i6 (l:List SR)(z t A B:Rat):Bool:=l.all (rn z t A B)
theorem y6 {p:Rat}(h:0<p):sgn p=1:=by rw[sgn,if_neg aW,if_neg aW]
theorem y5 {p:Rat}(h:p<0):sgn p = -1:=by rw[sgn,if_pos h]
theorem pJ {p:Rat}(h:p=0):sgn p=0:=(gA p).2 h
theorem Ef {p:Rat}(h:p≠0):sgn p=1\/sgn p = -1:=by
 rcases Classical.em (0<p) with h1|h1
 .exact .inl (y6 h1)
 .exact .inr (y5 aW)
set_option maxRecDepth 20000 in
theorem CL (b:BR)(hb:b.Ok)(a:AR){z t:Rat}{n m:Nat}[ha:Va a z t n m](hn:n+m<=50000)(r:AR){A B:Rat}{n' m':Nat}(hr:Va r A B n' m')(h2:n'<=100000)(h3:m'<=100000):Ret Tryz.prog .shared 210 [.agg (eB b),.agg (eA a),.agg (eA r)] (.bool (i6 b.l z t A B)):=by
 have h6:=rJ a;have h7:=uF a;have hck:=hb.chkL;have hl:=hb.lim.l;have h12:=hb.few.1;have hrz:=hr.z;have hrt:=hr.t;generalize hF:i6 b.l z t A B=F;rw[i6]at hF;obtain⟨w,ba,l⟩:=b;simp only at *
 have hml:(l.map eS).length=l.length:=ah;obtain⟨rz,rt⟩:=r;simp only at hrz hrt;refine Ret.of_pwp layOk mixed Go.Proofs.Tryz.func210 O Y O O ?_;refine H ?_;refine ap (fun i:Nat=>i<=l.length/\(l.drop i).all (rn z t A B)=l.all (rn z t A B)) (fun i=>[(4,.ptr 4 1 0 0),(5,.ptr 5 1 0 0),(11,.sl (l.map eS)),(12,I l.length),(13,I (i:Nat))])
  (fun i=>[(4,1,⟨45,8,[eA a],2⟩),(5,1,⟨71,8,[eA ⟨rz,rt⟩],2⟩)]) (fun i=>l.length-i) 0 ⟨Nat.zero_le _,by rw[List.drop_zero]⟩ ⟨O,O,O,by rw[<-hml];rfl,O,O,O,trivial⟩ ?_
 intro i s ⟨hi,hall⟩;refine D ?_ ?_<;>intro h
 .have hlt:i<l.length:=by have:=aC h;omega
  clear h;obtain⟨x,hx⟩:=aJ hlt;have hxm:=bc hx;have hxl:=hl.1 x hxm;have hkc:=cY hck x hxm;have zx:Zb x.x:=aK hxl.x.1 hxl.x.2;have hw:=fc i;have hdr:(l.drop i).all (rn z t A B)=(rn z t A B x&&(l.drop (i+1)).all (rn z t A B)):=by
   obtain⟨hl1,h2⟩:=bb hx;rw[List.drop_eq_getElem_cons hl1,h2,List.all_cons]
  rw[hdr]at hall;have hbd:rn z t A B x=rn z t A B x:=O
  conv at hbd=>rhs;rw[rn]
  have e1:=bG x.x hxl.x;have e2:=eW rt (ofQ (x.x:Rat)) (hx:=hrt) J Y;have v2:Vq (ofQ (B*(x.x:Rat))) (B*(x.x:Rat)) (m'+1+4):=Vq.ofQ (h:=@HQ.mul _ _ (m'+1) 4 hrt.hq HQ.int);have e3:=cJ rz (ofQ (B*(x.x:Rat))) (hx:=hrz) (hy:=v2) J J;have v3:Vq (ofQ (A+B*(x.x:Rat))) (A+B*(x.x:Rat)) (n'+1+(m'+1+4)+1):=Vq.ofQ (h:=@HQ.add _ _ (n'+1) _ hrz.hq (ej v2));have e4:=pM (ofQ (A+B*(x.x:Rat))) (hx:=v3) J;have cr:=pG x hxl hkc a (z:=z) (t:=t) J;have cl:=ra x hxl hkc a (z:=z) (t:=t) J;rw[show bI x.k.m (nF x.k.s (yQ x z t) x.k.S.length)=rV x z t from O]at cr;have vr:Vq (ofQ (rV x z t)) (rV x z t) 13:=Vq.ofQ (h:=(qH x.k hxl.k _).hq);have vl:Vq (Az x.k (yQ x z t) x.k.S.length) (lV x z t) 12:=C_ hxl.k _ _;have sr:=pM (ofQ (rV x z t)) (hx:=vr) Y;have sl:=pM (Az x.k (yQ x z t) x.k.S.length) (hx:=vl) Y;generalize ofQ (rV x z t)=RV at *
  generalize Az x.k (yQ x z t) x.k.S.length=LV at *
  generalize rn z t A B x=ok at *
  generalize ofQ (A+B*(x.x:Rat))=D1 at *
  generalize ofQ (B*(x.x:Rat))=D2 at *
  generalize ofQ (x.x:Rat)=D3 at *
  rcases Classical.em (0<A+B*(x.x:Rat)) with hd|hd
  .rw[y6 hd]at e4;rcases Classical.em (rV x z t=0) with hz|hz
   .rw[pJ hz]at sr;have hbad:ok=true:=by rw[hbd,decide_eq_true];rintro(⟨_,h⟩|⟨h,_⟩);exact h hz;grind
    rw[hbad,Bool.true_and]at hall;refine aS hx ?_;refine cn 11 [17,18,19,20,21,22,23,24,25,26,9] ?_;refine G e1 ?_;refine G e2 ?_;refine G e3 ?_;refine ar e4 ?_;refine cn 22 [27,28,29,30,31,32,33,34,35,36,37,38,39,40,41,42,43,44,45,46,47,48] ?_;refine G h6 ?_;refine G cr ?_;refine ar sr ?_;refine H ?_;exact⟨i+1,⟨J,hall⟩,J,O,O,O,O,congrArg I hw,O,O,trivial⟩
   .have hbad:ok=false:=by rw[hbd,decide_eq_false];exact fun h=>h (.inl ⟨hd,hz⟩)
    rw[hbad,Bool.false_and]at hall;rcases Ef hz with hs|hs
    .rw[hs]at sr;refine aS hx ?_;refine cn 11 [17,18,19,20,21,22,23,24,25,26,9] ?_;refine G e1 ?_;refine G e2 ?_;refine G e3 ?_;refine ar e4 ?_;refine cn 22 [27,28,29,30,31,32,33,34,35,36,37,38,39,40,41,42,43,44,45,46,47,48] ?_;refine G h6 ?_;refine G cr ?_;refine ar sr ?_;refine H ?_;exact fe O O (by rw[<-hF,<-hall])
    .rw[hs]at sr;refine aS hx ?_;refine cn 11 [17,18,19,20,21,22,23,24,25,26,9] ?_;refine G e1 ?_;refine G e2 ?_;refine G e3 ?_;refine ar e4 ?_;refine cn 22 [27,28,29,30,31,32,33,34,35,36,37,38,39,40,41,42,43,44,45,46,47,48] ?_;refine G h6 ?_;refine G cr ?_;refine ar sr ?_;refine H ?_;exact fe O O (by rw[<-hF,<-hall])
  .rcases Classical.em (A+B*(x.x:Rat)<0) with hd2|hd2
   .rw[y5 hd2]at e4;rcases Classical.em (lV x z t=0) with hz|hz
    .rw[pJ hz]at sl;have hbad:ok=true:=by rw[hbd,decide_eq_true];rintro(⟨h,_⟩|⟨_,h⟩);exact hd h;exact h hz
     rw[hbad,Bool.true_and]at hall;refine aS hx ?_;refine cn 11 [17,18,19,20,21,22,23,24,25,26,9] ?_;refine G e1 ?_;refine G e2 ?_;refine G e3 ?_;refine ar e4 ?_;refine cn 22 [27,28,29,30,31,32,33,34,35,36,37,38,39,40,41,42,43,44,45,46,47,48] ?_;refine G h7 ?_;refine G cl ?_;refine ar sl ?_;refine H ?_;exact⟨i+1,⟨J,hall⟩,J,O,O,O,O,congrArg I hw,O,O,trivial⟩
    .have hbad:ok=false:=by rw[hbd,decide_eq_false];exact fun h=>h (.inr ⟨hd2,hz⟩)
     rw[hbad,Bool.false_and]at hall;rcases Ef hz with hs|hs
     .rw[hs]at sl;refine aS hx ?_;refine cn 11 [17,18,19,20,21,22,23,24,25,26,9] ?_;refine G e1 ?_;refine G e2 ?_;refine G e3 ?_;refine ar e4 ?_;refine cn 22 [27,28,29,30,31,32,33,34,35,36,37,38,39,40,41,42,43,44,45,46,47,48] ?_;refine G h7 ?_;refine G cl ?_;refine ar sl ?_;refine H ?_;exact fe O O (by rw[<-hF,<-hall])
     .rw[hs]at sl;refine aS hx ?_;refine cn 11 [17,18,19,20,21,22,23,24,25,26,9] ?_;refine G e1 ?_;refine G e2 ?_;refine G e3 ?_;refine ar e4 ?_;refine cn 22 [27,28,29,30,31,32,33,34,35,36,37,38,39,40,41,42,43,44,45,46,47,48] ?_;refine G h7 ?_;refine G cl ?_;refine ar sl ?_;refine H ?_;exact fe O O (by rw[<-hF,<-hall])
   .rw[pJ (show A+B*(x.x:Rat)=0 by grind)]at e4;have hbad:ok=true:=by rw[hbd,decide_eq_true];rintro(⟨h,_⟩|⟨h,_⟩);exact hd h;exact hd2 h
    rw[hbad,Bool.true_and]at hall;refine aS hx ?_;refine cn 11 [17,18,19,20,21,22,23,24,25,26,9] ?_;refine G e1 ?_;refine G e2 ?_;refine G e3 ?_;refine ar e4 ?_;refine cn 22 [27,28,29,30,31,32,33,34,35,36,37,38,39,40,41,42,43,44,45,46,47,48] ?_;refine H ?_;exact⟨i+1,⟨J,hall⟩,J,O,O,O,O,congrArg I hw,O,O,trivial⟩
 .have hie:i=l.length:=by have:=aG h;omega
  clear h;rw[hie,List.drop_length,List.all_nil]at hall;rw[<-hall]at hF;subst hF;exact gV
theorem wX (b:BR)(hb:b.Ok)(a:AR){z t:Rat}{n m:Nat}[ha:Va a z t n m](hn:n+m<=50000)(r:AR){A B:Rat}{n' m':Nat}(hr:Va r A B n' m')(h2:n'<=100000)(h3:m'<=100000):Ret Tryz.prog .shared 209 [.agg (eA r),.dref (eB b) 0,.dref (eA a) 0] (.bool (i6 b.l z t A B)):=by
 have h1:=CL b hb a (z:=z) (t:=t) hn r hr h2 h3;generalize i6 b.l z t A B=F at *
 refine Ret.of_pwp layOk mixed Go.Proofs.Tryz.func209 O Y O O ?_;refine ar h1 ?_;exact gV
def pc (p:AR->Bool):List AR->Nat->Int
 |[],_ => -1
 |d::l,i=>if p d=true then(i:Int) else pc p l (i+1)
theorem uo (p:AR->Bool):∀(l:List AR) (i:Nat),decide (0<=pc p l i)=l.any p
 |[],i=>rfl
 |d::l,i=>by
  rw[pc,List.any_cons];cases h:p d
  .rw[if_neg Y,uo p l (i+1),Bool.false_or]
  .rw[if_pos O,Bool.true_or,decide_eq_true];omega
theorem An (p:AR->Bool){l:List AR}{i:Nat}{x:AR}(h:l[i]? = some x):pc p (l.drop i) i=if p x=true then(i:Int) else pc p (l.drop (i+1)) (i+1):=by
 obtain⟨hl,rfl⟩:=bb h;rw[List.drop_eq_getElem_cons hl,pc]
set_option maxRecDepth 20000 in
theorem wU (T:List AR)(hT:T.length<=1000)(f:FuncId)(c1 c2:List PV)(p:AR->Bool)(hg:∀d∈T,Ret Tryz.prog .shared f [.agg (eA d),.dref c1 0,.dref c2 0] (.bool (p d))):Ret Tryz.prog .shared 257 [.sl (T.map eA),.clo f [.dref c1 0,.dref c2 0]] (I (pc p T 0)):=by
 have hml:(T.map eA).length=T.length:=ah;generalize hF:pc p T 0=F;refine Ret.of_pwp layOk mixed Go.Proofs.Tryz.func257 O Y O O ?_;refine H ?_;refine ap (fun i:Nat=>i<=T.length/\pc p (T.drop i) i=F) (fun i=>[(0,.sl (T.map eA)),(1,.clo f [.dref c1 0,.dref c2 0]),(7,I T.length),(8,I (i:Nat))])
  (fun _=>[]) (fun i=>T.length-i) 0 ⟨Nat.zero_le _,by rw[List.drop_zero];exact hF⟩ ⟨O,O,by rw[<-hml];rfl,O,trivial⟩ ?_
 intro i s ⟨hi,hall⟩;refine D ?_ ?_<;>intro h
 .have hlt:i<T.length:=by have:=aC h;omega
  clear h;obtain⟨x,hx⟩:=aJ hlt;have hgx:=hg x (bc hx);have hw:=fc i;rw[An p hx]at hall;cases hp:p x with
  |true =>
   rw[hp]at hgx;rw[if_pos hp]at hall;refine aS hx ?_;refine ar hgx ?_;refine H ?_;exact nu O O (by rw[<-hall])
  |false =>
   rw[hp]at hgx;rw[if_neg (by rw[hp];decide)]at hall;refine aS hx ?_;refine ar hgx ?_;refine H ?_;exact⟨i+1,⟨J,hall⟩,J,O,O,O,congrArg I hw,trivial⟩
 .have hie:i=T.length:=by have:=aG h;omega
  clear h;rw[hie,List.drop_length,pc]at hall;rw[<-hall];exact cp
theorem qo (T:List AR)(hT:T.length<=1000)(f:FuncId)(c1 c2:List PV)(p:AR->Bool)(hg:∀d∈T,Ret Tryz.prog .shared f [.agg (eA d),.dref c1 0,.dref c2 0] (.bool (p d))):Ret Tryz.prog .shared 208 [.sl (T.map eA),.clo f [.dref c1 0,.dref c2 0]] (.bool (T.any p)):=by
 have h1:=wU T hT f c1 c2 p hg;rw[<-uo p T 0];generalize pc p T 0=F at *
 refine Ret.of_pwp layOk mixed Go.Proofs.Tryz.func208 O Y O O ?_;refine ar h1 ?_;exact gV
set_option maxRecDepth 20000 in
theorem x7 {K:St->Prop}{s:St}{d g2 g3:Nat}{R2 R3:Cont}{x:Operand}{tys:Array TypeId}{ty:TypeId}{pos:String}{af:Array Edge}(l:List SR)(hl:kz l)(h12:l.length<=1000)(hck:cH l=0)
  (hx:s.ev x = .sl (l.map eS)) (ho:FitO s [(2,g2,R2),(1003,g3,R3)])
  (hK:∀(s1:St) (g:Nat),K (({ reg:=s.reg,own:=(s1.over [] [(2,g2,R2),(1003,g3,R3),(3,g,⟨71,8,(dp l).map eA,1⟩)]).own }:St).putR d (.als 3 g 0 ((dp l).map eA).length))) :
  Sm Tryz.prog lay.get s ⟨some d,.call ⟨.value (.func 201),#[x],tys⟩,ty,pos,af,none⟩ K:=by
 have hp:=pz l hl h12;have hrg:∀x∈bW l,-1000000<=x/\x<=1000000:=fun x hx=>gO hck hx;have hpl:=iP l;have w1:=bG 1 ⟨Y,Y⟩;have w2:=bG (-1) ⟨Y,Y⟩;rw[dp]at hK;generalize bW l=Pl at *
 have hml:(Pl.map eN).length=Pl.length:=ah;have hrows:∀(k:Nat) x,Pl[k]? = some x->((Pl.take (k+1)).map qD).map eA=((Pl.take k).map qD).map eA++[eA (qD x)]:=fun k x hx=>by rw[bC hx,List.map_append,List.map_append];rfl
 have hrows2:∀(k:Nat) x,Pl[k]? = some x->(Pl.map qD++(Pl.take (k+1)).map yr).map eA=(Pl.map qD++(Pl.take k).map yr).map eA++[eA (yr x)]:=fun k x hx=>by rw[bC hx];simp[List.map_append]
 refine bT layOk O O Tryz.func201 O Y O O ?_;show PWP _ _ _ _ (bh s (([x]:List Operand).map s.ev++[]));rw[show(([x]:List Operand).map s.ev++([]:List PV))=[.sl (l.map eS)] by simp[hx]];rw[show bh s [.sl (l.map eS)]=bh (s.over [] [(2,g2,R2),(1003,g3,R3)]) [.sl (l.map eS)] by rw[Fit.over (l:=[]) ho]]
 ((repeat (first|refine aY ?_ | refine cE ?_ | refine cz ?_ | refine cB ?_));refine bq ?_)
 refine jb O trivial ?_
 ((repeat (first|refine aY ?_ | refine cE ?_ | refine cz ?_ | refine cB ?_));refine bq ?_)
 (first|refine aH (gZ 71 8 1 O O ?_)|refine aH (gY 71 8 1 O O ?_))
 refine G hp ?_;refine H ?_;refine bH [(0,.sl (l.map eS)),(3,.als 3 ((s.own 3).1+1) 0 0),(9,.sl (Pl.map eN)),(10,I (Pl.map eN).length),(11,I ((0:Nat):Int))] [(2,g2,R2),(1003,g3,R3),(3,(s.own 3).1+1,⟨71,8,[],1⟩)] ⟨O,O,O,O,O,O,O,O,trivial⟩ ?_;generalize (s.own 3).1+1=g;rw[hml];intro s0;refine ap (fun k=>k<=Pl.length) (fun k=>[(0,.sl (l.map eS)),(3,.als 3 (g+k) 0 (((Pl.take k).map qD).map eA).length),(9,.sl (Pl.map eN)),(10,I Pl.length),(11,I k)]) (fun k=>[(2,g2,R2),(1003,g3,R3),(3,g+k,⟨71,8,((Pl.take k).map qD).map eA,1⟩)]) (fun k=>Pl.length-k) 0 (Nat.zero_le _) ⟨O,O,O,O,O,O,O,O,trivial⟩ ?_;intro k s1 hk;refine D ?_ ?_<;>intro h
 .have hlt:k<Pl.length:=by have:=aC h;omega
  clear h;obtain⟨x,hx⟩:=aJ hlt;have hr:=hrg x (bc hx);have hnx:=bG (-x) ⟨J,J⟩;have hw:=fc k;have hn:IntKind.i64.wrap (0-x) = -x:=by rw[wrap_i64 J J];omega
  refine aS hx ?_;refine H ?_;rw[hn];refine nR O O O hnx O O ?_;refine G w1 ?_;refine H ?_;refine aH (bx 1 O O O O O O O O O O O aI O ?_);refine H ?_;refine aH (bQ 1 O O O O O O O O O O O aI (by intro row hr;first|(simp at hr;subst hr;rfl)|simp at hr) O O aU aU ?_);refine H ?_;refine⟨k+1,hlt,J,O,?_,O,O,congrArg I hw,O,O,?_,trivial⟩
  .rw[hrows k x hx];rfl
  .rw[hrows k x hx];rfl
 .have hge:k=Pl.length:=by have:=aG h;omega
  subst hge;clear h;rw[List.take_length];refine G hp ?_;refine H ?_;refine ap (fun k=>k<=Pl.length) (fun k=>[(3,.als 3 (g+Pl.length+k) 0 ((Pl.map qD++(Pl.take k).map yr).map eA).length),(25,.sl (Pl.map eN)),(26,I Pl.length),(27,I k)]) (fun k=>[(2,g2,R2),(1003,g3,R3),(3,g+Pl.length+k,⟨71,8,(Pl.map qD++(Pl.take k).map yr).map eA,1⟩)]) (fun k=>Pl.length-k) 0 (Nat.zero_le _) ⟨by rw[List.take_zero,List.map_nil,List.append_nil];rfl,O,by rw[<-hml];rfl,O,O,O,by rw[List.take_zero,List.map_nil,List.append_nil];rfl,trivial⟩ ?_;intro k s2 hk;refine D ?_ ?_<;>intro h
  .have hlt:k<Pl.length:=by have:=aC h;omega
   clear h;obtain⟨x,hx⟩:=aJ hlt;have hr:=hrg x (bc hx);have hnx:=bG x ⟨J,J⟩;have hw:=fc k;refine aS hx ?_;refine G hnx ?_;refine G w2 ?_;refine H ?_;refine aH (bx 1 O O O O O O O O O O O aI O ?_);refine H ?_;refine aH (bQ 1 O O O O O O O O O O O aI (by intro row hr;first|(simp at hr;subst hr;rfl)|simp at hr) O O aU aU ?_);refine H ?_;refine⟨k+1,hlt,J,?_,O,O,congrArg I hw,O,O,?_,trivial⟩
   .rw[hrows2 k x hx];rfl
   .rw[hrows2 k x hx];rfl
  .have hge:k=Pl.length:=by have:=aG h;omega
   subst hge;clear h;rw[List.take_length];refine H ?_;exact sy O O (hK s2 (g+Pl.length+Pl.length))
def HE:AR:=⟨ofQ ((-1:Int):Rat),ofQ ((0:Int):Rat)⟩
def jl (l:List SR):List AR:=dp l++[ek,HE]
def jp (b:BR)(z t:Rat):Bool:=(jl b.l).any fun d=>i6 b.l z t d.z.val d.t.val
theorem Ft {l:List SR}(hck:cH l=0){r:AR}(h:r∈jl l):Va r r.z.val r.t.val 4 4:=by
 rw[jl,List.mem_append]at h;rcases h with h|h
 .exact zp hck h
 .simp at h;rcases h with rfl|rfl
  .exact yu
  .exact⟨vI ⟨Y,Y⟩,vI ⟨Y,Y⟩⟩
theorem GR {r1 r2:List PV}{n:Nat}(h1:r1.length=n)(h2:r2.length=n):∀row∈[r1,r2],row.length=n:=by
 intro row hr;rcases List.mem_cons.1 hr with rfl|hr
 .exact h1
 .rcases List.mem_cons.1 hr with rfl|hr
  .exact h2
  .cases hr
set_option maxRecDepth 20000 in
theorem rb (b:BR)(hb:b.Ok)(a:AR){z t:Rat}{n m:Nat}[ha:Va a z t n m](hn:n+m<=50000):Ret Tryz.prog .shared 143 [.agg (eB b),.agg (eA a)] (.bool (jp b z t)):=by
 have hl:=hb.lim.l;have hck:=hb.chkL;have h12:=hb.few.1;have hlen:(jl b.l).length<=1000:=by
  have:=iP b.l;rw[jl,dp];simp;omega
 have hc:=qo (jl b.l) hlen 209 (eB b) (eA a) (fun d=>i6 b.l z t d.z.val d.t.val) fun d hd=>wX b hb a (z:=z) (t:=t) hn d (Ft hck hd) Y Y;rw[show(jl b.l).any (fun d=>i6 b.l z t d.z.val d.t.val)=jp b z t from O]at hc;have w1:=bG 1 ⟨Y,Y⟩;have w0:=bG 0 ⟨Y,Y⟩;have w2:=bG (-1) ⟨Y,Y⟩;generalize jp b z t=F at *
 have hT:(dp b.l).length<=1000:=by rw[jl]at hlen;simp at hlen;omega
 have hrow:(dp b.l).map eA++[eA ek,eA HE]=(jl b.l).map eA:=by rw[jl,List.map_append];rfl
 refine Ret.of_pwp layOk mixed Go.Proofs.Tryz.func143 O Y O O ?_
 (repeat ((fail_if_success (with_reducible refine aQ 1 ?_));refine cx O ?_))
 refine aE (Ghost.move (k:=3) (k':=1003) (t:=3) O O O O) ?_
 ((repeat ((fail_if_success (with_reducible refine aQ 1 ?_));refine cx O ?_));refine aM 2 ?_)
 iterate 2 refine fB O ?_
 refine aY ?_;refine aV O (x7 (g2:=1) (g3:=1) b.l hl J hck O ⟨O,O,trivial⟩ fun s1 g=>?_);refine aO ?_;refine G w1 ?_;refine G w0 ?_;refine G w2 ?_;refine G w0 ?_;refine H ?_;refine aH (bx 1 O O O O O O O O O O O aI O ?_);refine H ?_;refine aH (bQ 1 O O O O O O O O O O O aI (GR O O) O O aU aU ?_)
 (repeat ((fail_if_success (with_reducible refine aQ 2 ?_));refine cx O ?_))
 refine aE (Ghost.data (k:=2) (t:=2) O O O O) ?_;refine aE (Ghost.data (k:=1003) (t:=3) O O O O) ?_;refine H ?_;rw[<-hrow]at hc;refine JT O O O hc O O O ?_;exact gV
theorem Jr (s:SR)(t:Rat)(k:Nat):prB (bn s t k)=(s.k.s k-(s.c.val+t*(s.x:Rat)),s.k.m k-bI s.k.m k):=by
 rw[prB,bn,ofQ_val,ofQ_val];rfl
theorem Id (b:BR)(t:Rat):(ko b.l t).map prB=(bd b).bnds t:=by
 rw[ko,Bd.bnds,List.map_flatMap];show _=(List.range b.l.length).flatMap ((bd b).bnd1 t);have e:∀s:SR,(jO t s).map prB=(List.range s.k.S.length).map fun k=>(s.k.s k-(s.c.val+t*(s.x:Rat)),s.k.m k-bI s.k.m k):=by
  intro s;rw[jO,List.map_map];exact List.map_congr_left fun k _=>Jr s t k
 have key:∀(l:List SR),(l.flatMap fun s=>(jO t s).map prB)=(List.range l.length).flatMap fun i=>(jO t (l.getD i dS)).map prB:=by
  intro l
  induction l with
  |nil=>rfl
  |cons x l ih =>
   rw[List.flatMap_cons,ih,List.length_cons,List.range_succ_eq_map,List.flatMap_cons,List.flatMap_map];rfl
 rw[key];refine congrArg (fun f=>(List.range b.l.length).flatMap f) (funext fun i=>?_);rw[e];rfl
theorem ng {b:BR}(hb:b.Ok){t:Rat}(hex:∃z,(bd b).w<=(bd b).F z t):(bd b).Least (gD b t) t:=by
 refine Bd.settled_least (il hb) hex ?_ ?_
 .rw[<-Id];exact(gC bz (ko b.l t)).map prB
 .rw[Ce,List.pairwise_map];exact fV bz (ko b.l t)
theorem jF {b:BR}(hb:b.Ok){t:Rat}(hex:∃z,(bd b).w<=(bd b).F z t):gD b t=(bd b).sg t:=(Bd.sg_eq (ng hb hex)).symm
theorem CZ {b:BR}(z t:Rat):(bd b).Inl ((bd b).pL z t) z t:=fun i hi=>w_
theorem xV {b:BR}(hb:b.Ok){t:Rat}{m:Nat}(ht:HQ t m)(hex:∃z,(bd b).w<=(bd b).F z t):HQ (gD b t) (m+5000):=by
 have hl:=ng hb hex;have hK:=hl.K (il hb) (CZ _ _);have hz:=Bd.ln_at (il hb) hl.1 (CZ (b:=b) (gD b t) t).c hK;rw[hz,Bd.ln];have hw:Zb b.w:=aK hb.lim.w.1 hb.lim.w.2;have wq:HQ ((bd b).w) 4:=HQ.int;have hpn:∀i,i<b.l.length->(bd b).pL (gD b t) t i<=(bd b).n i:=fun i hi=>(CZ (b:=b) (gD b t) t i hi).1;have fo:=He hb hpn;have kc:=BV hb ((bd b).pL (gD b t) t);have kh:=BW hb ((bd b).pL (gD b t) t);exact(@HQ.div _ _ _ 300 (@HQ.sub _ _ _ _ (@HQ.sub _ _ 4 4100 wq fo) (@HQ.mul _ _ 300 m kc ht)) kh).mono J
theorem Ez {b:BR}(hb:b.Ok){t:Rat}{m:Nat}(ht:HQ t m)(hex:∃z,(bd b).w<=(bd b).F z t):Va ⟨ofQ (gD b t),ofQ t⟩ (gD b t) t (m+5000) m:=⟨Vq.ofQ (h:=xV hb ht hex),Vq.ofQ (h:=ht)⟩
theorem ug {b:BR}(hb:b.Ok){t:Rat}{m:Nat}(ht:HQ t m)(hm:m<=20000)(hex:∃z,(bd b).w<=(bd b).F z t):Ret Tryz.prog .shared 203 [.agg (eB b),.agg (eA ⟨ofQ (gD b t),ofQ t⟩)] (.agg (eR (ofQ ((bd b).E t)))):=by
 have:=oV b hb ⟨ofQ (gD b t),ofQ t⟩ (ha:=Ez hb ht hex) J;rwa [show(bd b).e (gD b t) t=(bd b).E t by rw[Bd.E,jF hb hex]]at this
theorem Bf {b:BR}(hb:b.Ok){t:Rat}{m:Nat}(ht:HQ t m)(hm:m<=20000)(hex:∃z,(bd b).w<=(bd b).F z t):Ret Tryz.prog .shared 202 [.agg (eR (ofQ ((bd b).E t)))] (I (sgn ((bd b).E t))):=by
 have h1:=Il hb (xV hb ht hex) ht;rw[show(bd b).e (gD b t) t=(bd b).E t by rw[Bd.E,jF hb hex]]at h1;exact pM (ofQ ((bd b).E t)) (hx:=Vq.ofQ (h:=h1)) J
theorem oZ {b:BR}(hb:b.Ok){t:Rat}{m:Nat}(ht:HQ t m)(hm:m<=20000)(hex:∃z,(bd b).w<=(bd b).F z t):Ret Tryz.prog .shared 206 [.agg (eB b),.agg (eA ⟨ofQ (gD b t),ofQ t⟩)] (Hs ((bd b).guess ((bd b).sg t) t)):=by
 have:=Aj b hb ⟨ofQ (gD b t),ofQ t⟩ (ha:=Ez hb ht hex) J;rwa [<-jF hb hex]
def p2 (k:Nat):Rat:=((2^k:Nat):Int)
theorem lY (k:Nat):p2 (k+1)=p2 k+p2 k:=by
 rw[p2,p2,Nat.pow_succ,show((2^k*2:Nat):Int)=((2^k:Nat):Int)+((2^k:Nat):Int) by omega]
 push_cast
 rfl
theorem u4 {k:Nat}:HQ (p2 k) (k/16+1):=by
 refine⟨iG ?_ J⟩;rw[Int.natAbs_natCast,show(65536:Nat)=2^16 by decide,<-Nat.pow_mul];exact Nat.pow_lt_pow_right Y J
theorem Fp {b:Bd}{n:Nat}{w:Rat}:b.dbl (-1) (n+1) w=if 0<b.E (-w) then b.dbl (-1) n (w+w) else some w:=by
 rw[Bd.dbl];have e:(-1:Rat)*w = -w:=aW;rw[e];by_cases h:0<b.E (-w)
 .rw[if_pos h,if_pos aW]
 .rw[if_neg h,if_neg aW]
theorem Fq {b:Bd}{n:Nat}{w:Rat}:b.dbl 1 (n+1) w=if b.E w<0 then b.dbl 1 n (w+w) else some w:=by
 rw[Bd.dbl];have e:(1:Rat)*w=w:=aW;rw[e];by_cases h:b.E w<0
 .rw[if_pos h,if_pos aW]
 .rw[if_neg h,if_neg aW]
def Dy (N j:Nat)(t:Rat):Prop:=∃a:Int,t=(a:Rat)/((2^j:Nat):Int)/\a.natAbs<=2^(j+N)
theorem EQ (j:Nat):(((2^j:Nat):Int))≠0:=by have:=Nat.two_pow_pos j;omega
theorem Dy.hq {N j:Nat}{t:Rat}(h:Dy N j t):HQ t ((j+N)/16+1):=by
 obtain⟨a,rfl,ha⟩:=h;have key:2^(j+N)<65536^((j+N)/16+1):=by
  rw[show(65536:Nat)=2^16 by decide,<-Nat.pow_mul];exact Nat.pow_lt_pow_right Y J
 have h2:2^j<=2^(j+N):=Nat.pow_le_pow_right Y J;exact⟨gc (EQ j) J (by rw[Int.natAbs_natCast];omega)⟩
theorem Dy.mid {N j:Nat}{lo hi:Rat}(h1:Dy N j lo)(h2:Dy N j hi):Dy N (j+1) ((lo+hi)/2):=by
 obtain⟨a,rfl,ha⟩:=h1;obtain⟨c,rfl,hc⟩:=h2;refine⟨a+c,?_,?_⟩
 .have e:(((2^(j+1):Nat):Int):Rat)=2*(((2^j:Nat):Int):Rat):=by
   rw[Nat.pow_succ,show((2^j*2:Nat):Int)=2*((2^j:Nat):Int) by omega];push_cast;rfl
  have hn:(((2^j:Nat):Int):Rat)≠0:=by have:=EQ j;exact_mod_cast this
  rw[e]
  push_cast
  generalize (((2^j:Nat):Int):Rat)=D0 at *
  grind
 .rw[show j+1+N=(j+N)+1 by omega,Nat.pow_succ];omega
theorem Dy.up {N j:Nat}{t:Rat}(h:Dy N j t):Dy N (j+1) t:=by
 have:=Dy.mid h h;rwa [show(t+t)/2=t by grind]at this
noncomputable def f3 (b:Bd):List Rat->Option (Rat × Rat)
 |[]=>none
 |t::r=>match b.at1 t with
  |some x=>some x
  |none=>f3 b r
theorem FF (b:Bd)(lo hi:Rat):b.fst3 lo hi=f3 b [0,lo,hi]:=by
 rw[Bd.fst3,f3,f3,f3,f3];cases b.at1 0<;>cases b.at1 lo<;>cases b.at1 hi<;>rfl
set_option maxRecDepth 20000 in
theorem qU (b:BR)(hb:b.Ok)(h40:∀t,(ko b.l t).length<=54)(hS:∀t,SortC (ko b.l t))(hex:∀t,∃z,(bd b).w<=(bd b).F z t){N:Nat}(hN:N<=150000){x:Rat × Rat}(hx:(bd b).eqQ N=some x):Ret Tryz.prog .shared 142 [.agg (eB b)] (.agg (eA ⟨ofQ x.1,ofQ x.2⟩)):=by
 have w1:=bG 1 ⟨Y,Y⟩;have wm:=bG (-1) ⟨Y,Y⟩;rw[show(((1:Int):Int):Rat)=p2 0 from O]at w1;rw[show(((-1:Int):Int):Rat) = -p2 0 by rw[show p2 0=1 from O];rfl]at wm;rw[Bd.eqQ]at hx;obtain⟨Wl,hWl⟩:∃W,(bd b).dbl (-1) N 1=some W:=by
  cases h:(bd b).dbl (-1) N 1 with
  |none=>rw[h]at hx;cases hx
  |some W=>exact⟨W,rfl⟩
 obtain⟨Wh,hWh⟩:∃W,(bd b).dbl 1 N 1=some W:=by
  cases h:(bd b).dbl 1 N 1 with
  |none=>rw[hWl,h]at hx;cases hx
  |some W=>exact⟨W,rfl⟩
 rw[hWl,hWh]at hx;simp only at hx;have row:∀(t:Rat) (m:Nat),HQ t m->m<=20000->Ret Tryz.prog .shared 204 [.agg (eB b),.agg (eR (ofQ t))] (.agg (eA ⟨ofQ (gD b t),ofQ t⟩))/\Ret Tryz.prog .shared 203 [.agg (eB b),.agg (eA ⟨ofQ (gD b t),ofQ t⟩)] (.agg (eR (ofQ ((bd b).E t))))/\Ret Tryz.prog .shared 202 [.agg (eR (ofQ ((bd b).E t)))] (I (sgn ((bd b).E t))):=fun t m ht hm =>
  ⟨vG b hb (h40 t) (hS t) (ofQ t) (ht:=Vq.ofQ (h:=ht)) J,ug hb ht hm (hex t),Bf hb ht hm (hex t)⟩
 refine Ret.of_pwp layOk mixed Go.Proofs.Tryz.func142 O Y O O ?_;refine G w1 ?_;refine G wm ?_;refine G w1 ?_;refine H ?_;refine ap (fun k:Nat=>k<N/\(bd b).dbl (-1) (N-k) (p2 k)=some Wl) (fun k=>[(1,.ptr 1 1 0 0),(2,.ptr 2 1 0 0),(3,.ptr 3 1 0 0),(4,.ptr 4 1 0 0),(5,.ptr 5 1 0 0)])
  (fun k=>[(1,1,⟨158,6,[eB b],2⟩),(2,1,⟨45,8,[zN++zN],2⟩),(3,1,⟨42,4,[eR (ofQ (p2 k))],2⟩),(4,1,⟨42,4,[eR (ofQ (-p2 k))],2⟩),(5,1,⟨42,4,[eR (ofQ (p2 0))],2⟩)]) (fun k=>N-k) 0
  ⟨by
   rcases Nat.eq_zero_or_pos N with h|h;· subst h;cases hWl
   exact h,hWl⟩ ⟨O,O,O,O,O,O,O,O,O,O,trivial⟩ ?_
 intro k s ⟨hk,hd⟩;obtain⟨j,hj⟩:∃j,N-k=j+1:=⟨N-k-1,J⟩;rw[hj,Fp]at hd;have hq:HQ (p2 k) 10000:=u4.mono J;have hqn:HQ (-p2 k) 10000:=@HQ.neg _ _ hq;obtain⟨r1,r2,r3⟩:=row (-p2 k) 10000 hqn Y;have hsg:=iS ((bd b).E (-p2 k));have n1:=cJ (ofQ (p2 k)) (ofQ (p2 k)) (hx:=Vq.ofQ (h:=hq)) (hy:=Vq.ofQ (h:=hq)) Y Y;rw[<-lY]at n1;have hq1:HQ (p2 (k+1)) 10000:=u4.mono J;have n2:=JJ (ofQ (p2 (k+1))) (hx:=Vq.ofQ (h:=hq1)) Y;rw[<-lY]at hd;refine cn 7 [19,20,21,22,23,24,25] ?_;refine G r1 ?_;refine G r2 ?_;refine ar r3 ?_;refine D ?_ ?_<;>intro h
 .have h1:=hsg.1 (aC h);clear h;rw[if_pos h1]at hd;refine G n1 ?_;refine G n2 ?_;refine H ?_;have hk1:k+1<N:=by
   rcases Nat.lt_or_ge (k+1) N with h|h
   .exact h
   .rw[show j=0 by omega]at hd;cases hd
  have hd1:(bd b).dbl (-1) (N-(k+1)) (p2 (k+1))=some Wl:=by rw[show N-(k+1)=j by omega];exact hd
  exact⟨k+1,⟨hk1,hd1⟩,J,O,O,O,O,O,O,O,O,O,O,trivial⟩
 .have h1:¬0<(bd b).E (-p2 k):=fun h2=>(aG h) (hsg.2 h2);clear h;rw[if_neg h1]at hd;cases hd;clear hWl hj r1 r2 r3 hsg n1 n2 hq1;refine G w1 ?_;refine H ?_;refine ap (fun k':Nat=>k'<N/\(bd b).dbl 1 (N-k') (p2 k')=some Wh) (fun k'=>[(1,.ptr 1 1 0 0),(2,.ptr 2 1 0 0),(3,.ptr 3 1 0 0),(4,.ptr 4 1 0 0),(5,.ptr 5 1 0 0)])
   (fun k'=>[(1,1,⟨158,6,[eB b],2⟩),(2,1,⟨45,8,[zN++zN],2⟩),(3,1,⟨42,4,[eR (ofQ (p2 k'))],2⟩),(4,1,⟨42,4,[eR (ofQ (-p2 k))],2⟩),(5,1,⟨42,4,[eR (ofQ (p2 k'))],2⟩)]) (fun k'=>N-k') 0
   ⟨J,hWh⟩ ⟨O,O,O,O,O,O,O,O,O,O,trivial⟩ ?_
  intro q s2 ⟨hk',hd⟩;obtain⟨j,hj⟩:∃j,N-q=j+1:=⟨N-q-1,J⟩;rw[hj,Fq]at hd;have hqq:HQ (p2 q) 10000:=u4.mono J;obtain⟨r1,r2,r3⟩:=row (p2 q) 10000 hqq Y;have hsg:=cP ((bd b).E (p2 q));have n1:=cJ (ofQ (p2 q)) (ofQ (p2 q)) (hx:=Vq.ofQ (h:=hqq)) (hy:=Vq.ofQ (h:=hqq)) Y Y;rw[<-lY]at n1;rw[<-lY]at hd;refine cn 7 [32,33,34,35,36,37,38] ?_;refine G r1 ?_;refine G r2 ?_;refine ar r3 ?_;refine D ?_ ?_<;>intro h
  .have h1:=hsg.1 (aC h);clear h;rw[if_pos h1]at hd;refine G n1 ?_;refine H ?_;have hk1:q+1<N:=by
    rcases Nat.lt_or_ge (q+1) N with h|h
    .exact h
    .rw[show j=0 by omega]at hd;cases hd
   have hd1:(bd b).dbl 1 (N-(q+1)) (p2 (q+1))=some Wh:=by rw[show N-(q+1)=j by omega];exact hd
   exact⟨q+1,⟨hk1,hd1⟩,J,O,O,O,O,O,O,O,O,O,O,trivial⟩
  .have h1:¬(bd b).E (p2 q)<0:=fun h2=>(aG h) (hsg.2 h2);clear h;rw[if_neg h1]at hd;cases hd;clear hWh hj r1 r2 r3 hsg n1;have w0:=bG 0 ⟨Y,Y⟩;rw[show(((0:Int)):Rat)=0 from O]at w0;rw[FF]at hx;have hL:∀t∈[0,-p2 k,p2 q],HQ t 10000:=by
    intro t ht;simp at ht;rcases ht with rfl|rfl|rfl
    .exact HQ.zero.mono Y
    .exact hqn
    .exact hqq
   refine H ?_;refine bS [46] [3,4] aT ?_;refine G w0 ?_;refine H ?_;refine qj O O O (bx 1 O O O O O O O O O O O aI O ⟨g_ O,?_⟩);refine H ?_;have hrows:([0,-p2 k,p2 q]:List Rat).map (fun t=>eR (ofQ t))=[eR (ofQ 0),eR (ofQ (-p2 k)),eR (ofQ (p2 q))]:=O;refine bH [(1,.ptr 1 1 0 0),(2,.ptr 2 1 0 0),(4,.ptr 4 1 0 0),(5,.ptr 5 1 0 0),(46,.als 46 ((s2.own 46).1+1) 0 3),(47,I 3),(48,I ((0:Nat):Int))]
    [(1,1,⟨158,6,[eB b],2⟩),(2,1,⟨45,8,[zN++zN],2⟩),(4,1,⟨42,4,[eR (ofQ (-p2 k))],2⟩),(5,1,⟨42,4,[eR (ofQ (p2 q))],2⟩),(46,(s2.own 46).1+1,⟨42,4,[eR (ofQ 0),eR (ofQ (-p2 k)),eR (ofQ (p2 q))],1⟩)]
    ⟨O,O,O,O,O,O,O,O,O,O,O,O,trivial⟩ ?_
   generalize (s2.own 46).1+1=g;rw[<-hrows];intro s3;generalize hLL:([0,-p2 k,p2 q]:List Rat)=T3 at *
   have hT3:T3.length=3:=by rw[<-hLL];rfl
   refine ap (fun i:Nat=>i<=3/\(match f3 (bd b) (T3.drop i) with|some x=>some x|none=>(bd b).bis N (-p2 k) (p2 q))=some x) (fun i=>[(1,.ptr 1 1 0 0),(2,.ptr 2 1 0 0),(4,.ptr 4 1 0 0),(5,.ptr 5 1 0 0),(46,.als 46 g 0 3),(47,I 3),(48,I (i:Nat))])
    (fun i=>[(1,1,⟨158,6,[eB b],2⟩),(2,1,⟨45,8,[zN++zN],2⟩),(4,1,⟨42,4,[eR (ofQ (-p2 k))],2⟩),(5,1,⟨42,4,[eR (ofQ (p2 q))],2⟩),(46,g,⟨42,4,T3.map (fun t=>eR (ofQ t)),1⟩)]) (fun i=>3-i) 0
    ⟨Nat.zero_le _,hx⟩ ⟨O,O,O,O,O,O,O,O,O,O,O,O,trivial⟩ ?_
   intro i s4 ⟨hi,hF⟩;refine D ?_ ?_<;>intro h
   .have hlt:i<3:=by have:=aC h;omega
    clear h;obtain⟨t,ht⟩:=aJ (show i<T3.length by omega);have hrow:(T3.map (fun t=>eR (ofQ t)))[i]? = some (eR (ofQ t)):=by rw[List.getElem?_map,ht];rfl
    have htq:=hL t (bc ht);have hw:=fc i;obtain⟨r1,r2,r3⟩:=row t 10000 htq Y;have hgs:=oZ hb htq Y (hex t);have hdr:f3 (bd b) (T3.drop i)=match (bd b).at1 t with|some x=>some x|none=>f3 (bd b) (T3.drop (i+1)):=by
     obtain⟨hl1,h2⟩:=bb ht;rw[List.drop_eq_getElem_cons hl1,h2,f3]
    rw[hdr,Bd.at1,<-jF hb (hex t)]at hF;rw[<-jF hb (hex t)]at hgs;refine H ?_;refine jY O O O O O O O O O ?_;rw[Int.toNat_natCast,Nat.zero_add i];refine bE O O (cu O O O hrow O) ?_;refine G r1 ?_;refine G r2 ?_;refine ar r3 ?_;refine H ?_;have hs0:=gA ((bd b).E t);refine bP O ?_ ?_<;>intro h
    .have h1:=hs0.1 (aC h);clear h;rw[if_pos h1]at hF;simp only[Option.some.injEq]at hF;subst hF;exact bV
    .have h1:¬(bd b).E t=0:=fun h2=>(aG h) (hs0.2 h2);clear h;rw[if_neg h1]at hF;cases hgg:(bd b).guess (gD b t) t with
     |none =>
      rw[hgg]at hgs hF;simp only at hF;rw[Hs]at hgs;refine G hgs ?_;refine H ?_;exact⟨i+1,⟨J,hF⟩,J,O,O,O,O,O,O,congrArg I hw,O,O,O,O,O,trivial⟩
     |some y =>
      rw[hgg]at hgs hF;simp only[Option.some.injEq]at hF;subst hF;rw[Hs]at hgs;refine G hgs ?_;exact bV
   .have hie:i=3:=by have:=aG h;omega
    clear h;rw[hie,List.drop_eq_nil_of_le J,f3]at hF;simp only at hF;have hd0:Dy N 0 (-p2 k):=⟨-((2^k:Nat):Int),by rw[p2];push_cast;grind,by rw[Int.natAbs_neg,Int.natAbs_natCast];exact Nat.pow_le_pow_right Y J⟩;have hd1:Dy N 0 (p2 q):=⟨((2^q:Nat):Int),by rw[p2];push_cast;grind,by rw[Int.natAbs_natCast];exact Nat.pow_le_pow_right Y J⟩;have w2:=bG 2 ⟨Y,Y⟩;rw[show(((2:Int)):Rat)=2 from O]at w2;have v2:Vq (ofQ 2) 2 4:=Vq.ofQ (h:=HQ.two);refine H ?_;refine ap (fun u:Nat × Rat × Rat=>u.1<=N/\(bd b).bis (N-u.1) u.2.1 u.2.2=some x/\Dy N u.1 u.2.1/\Dy N u.1 u.2.2) (fun u=>[(1,.ptr 1 1 0 0),(2,.ptr 2 1 0 0),(4,.ptr 4 1 0 0),(5,.ptr 5 1 0 0)])
     (fun u=>[(1,1,⟨158,6,[eB b],2⟩),(2,1,⟨45,8,[zN++zN],2⟩),(4,1,⟨42,4,[eR (ofQ u.2.1)],2⟩),(5,1,⟨42,4,[eR (ofQ u.2.2)],2⟩)]) (fun u=>N-u.1) (0,-p2 k,p2 q)
     ⟨Nat.zero_le _,hF,hd0,hd1⟩ ⟨O,O,O,O,O,O,O,O,trivial⟩ ?_
    rintro⟨j,lo,hi⟩ s5 ⟨hj,hB,hlo,hhi⟩;simp only at hj hB hlo hhi;dsimp only;obtain⟨n,hn⟩:∃n,N-j=n+1:=by
     rcases Nat.eq_zero_or_pos (N-j) with h|h
     .rw[h]at hB;cases hB
     .exact⟨N-j-1,J⟩
    rw[hn,Bd.bis]at hB;have hm:=hlo.mid hhi;have hl2:=hlo.up;have hh2:=hhi.up;have ql:=hlo.hq;have qh:=hhi.hq;have qm:=hm.hq;have a1:=cJ (ofQ lo) (ofQ hi) (hx:=Vq.ofQ (h:=ql)) (hy:=Vq.ofQ (h:=qh)) J J;have vs:Vq (ofQ (lo+hi)) (lo+hi) ((j+N)/16+1+((j+N)/16+1)+1):=Vq.ofQ (h:=@HQ.add _ _ _ _ ql qh);have a2:=uX (ofQ (lo+hi)) (ofQ 2) (hx:=vs) (hy:=v2) J Y Y;obtain⟨r1,r2,r3⟩:=row ((lo+hi)/2) _ qm J;have hgs:=oZ hb qm J (hex ((lo+hi)/2));rw[Bd.at1,<-jF hb (hex ((lo+hi)/2))]at hB;rw[<-jF hb (hex ((lo+hi)/2))]at hgs;generalize (lo+hi)/2=t at *
    have hs0:=gA ((bd b).E t);have hs1:=cP ((bd b).E t);refine G a1 ?_;refine G w2 ?_;refine G a2 ?_;refine G r1 ?_;refine G r2 ?_;refine ar r3 ?_;refine D ?_ ?_<;>intro h
    .have h1:=hs0.1 (aC h);clear h;rw[if_pos h1]at hB;simp only[Option.some.injEq]at hB;subst hB;exact bV
    .have h1:¬(bd b).E t=0:=fun h2=>(aG h) (hs0.2 h2);clear h;rw[if_neg h1]at hB;cases hgg:(bd b).guess (gD b t) t with
     |none =>
      rw[hgg]at hgs hB;simp only at hB;rw[Hs]at hgs;refine G hgs ?_;refine D ?_ ?_<;>intro h
      .have h2:=hs1.1 (aC h);clear h;rw[if_pos h2]at hB;refine H ?_;exact⟨(j+1,t,hi),⟨by simp only;omega,by simp only;rw[show N-(j+1)=n by omega];exact hB,hm,hh2⟩,by simp only;omega,O,O,O,O,O,O,O,O,trivial⟩
      .have h2:¬(bd b).E t<0:=fun h3=>(aG h) (hs1.2 h3);clear h;rw[if_neg h2]at hB;refine H ?_;exact⟨(j+1,lo,t),⟨by simp only;omega,by simp only;rw[show N-(j+1)=n by omega];exact hB,hl2,hm⟩,by simp only;omega,O,O,O,O,O,O,O,O,trivial⟩
     |some y =>
      rw[hgg]at hgs hB;simp only[Option.some.injEq]at hB;subst hB;rw[Hs]at hgs;refine G hgs ?_;exact bV
theorem tW {l:List Int}{x:Int}(h:x∈l):x∈Lib.compact l:=by
 have key:∀n (hn:n<l.length),∃m,∃hm:m<l.length,l[m]=l[n]/\Lib.keeps l.toArray m=true:=by
  intro n
  induction n with
  |zero=>intro hn;exact⟨0,hn,rfl,by simp[Lib.keeps]⟩
  |succ n ih =>
   intro hn;by_cases he:l[n+1]=l[n]
   .obtain⟨m,hm,h1,h2⟩:=ih J;exact⟨m,hm,h1.trans he.symm,h2⟩
   .refine⟨n+1,hn,O,?_⟩;rw[Lib.keeps,decide_eq_true_eq];right;simp only[List.getElem!_toArray,Nat.add_sub_cancel];rw[getElem!_pos l (n+1) hn,getElem!_pos l n J];exact he
 obtain⟨n,hn,hx⟩:=List.mem_iff_getElem.1 h;obtain⟨m,hm,h1,h2⟩:=key n hn;rw[Lib.compact,Lib.compactUpTo];refine List.mem_map.2 ⟨m,List.mem_filter.2 ⟨List.mem_range.2 hm,h2⟩,?_⟩;simp only[List.getElem!_toArray];rw[getElem!_pos l m hm,h1,hx]
theorem w7 {l:List SR}{s:SR}(h:s∈l):s.x∈bW l:=by
 rw[bW];refine tW ?_;have:s.x∈l.map (·.x):=List.mem_map.2 ⟨s,h,O⟩;exact(List.mergeSort_perm _ _).mem_iff.2 this
def lz (b:BR):Prop:=lg b ek=false/\∀r∈dp b.l,lg b r=false
theorem pD {b:BR}{A B:Rat}:mV b A B=true↔jd b.l A B b.l.length/\am (yT b.l A B) b.l.length<(b.w:Rat)*(A+B*b.a.val):=by
 rw[mV,@decide_eq_true_iff _ (Classical.propDecidable _)]
theorem xk {b:BR}{A B:Rat}(h:mV b A B=false):¬(jd b.l A B b.l.length/\am (yT b.l A B) b.l.length<(b.w:Rat)*(A+B*b.a.val)):=by
 intro h1;rw[pD.2 h1]at h;cases h
theorem F7:(ofQ ((1:Int):Rat)).val=1:=by rw[ofQ_val];rfl
theorem zero_val:(ofQ ((0:Int):Rat)).val=0:=by rw[ofQ_val];rfl
theorem kZ {b:BR}(h:lz b):¬((∀i,i<(bd b).N->(bd b).lim i)/\am (bd b).cap (bd b).N<(bd b).w):=by
 have h1:=xk h.1;rw[show ek.z.val=1 from F7,show ek.t.val=0 from zero_val]at h1;intro⟨h2,h3⟩;refine h1 ⟨fun i hi _=>h2 i hi,?_⟩;have e:am (yT b.l 1 0) b.l.length=am (bd b).cap (bd b).N:=cy fun i hi=>by
  rw[yT,if_pos aW];show cI b.l i*(1+0*xI b.l i)=cI b.l i;grind
 rw[e];have h4:am (bd b).cap (bd b).N<(b.w:Rat):=h3;grind
theorem uP {b:BR}(hb:b.Ok)(h:lz b)(t:Rat):∃z,(bd b).Least z t :=
 ⟨_,ng hb (Bd.enough (il hb) t (kZ h))⟩
theorem AN {b:BR}(h:lz b):(bd b).NoTip:=by
 intro s hs i0 hi0 hl hlt;have hx:=w7 (br (l:=b.l) hi0);have key:∀A B:Rat,(∀X:Rat,A+B*X=s*(X-(bd b).X i0))->mV b A B=true:=by
  intro A B hAB;refine pD.2 ⟨fun i hi hp=>hl i hi (by rw[hAB]at hp;exact hp),?_⟩;have e:am (yT b.l A B) b.l.length=am (fun i=>if 0<s*((bd b).X i-(bd b).X i0) then(bd b).cap i*(s*((bd b).X i-(bd b).X i0)) else 0) (bd b).N:=cy fun i hi=>by
   rw[yT,hAB];rfl
  rw[e,hAB];exact hlt
 rcases hs with rfl|rfl
 .have hm:yr (b.l.getD i0 dS).x∈dp b.l/\qD (b.l.getD i0 dS).x∈dp b.l:=⟨List.mem_append_right _ (List.mem_map.2 ⟨_,hx,O⟩),List.mem_append_left _ (List.mem_map.2 ⟨_,hx,O⟩)⟩;have h1:=h.2 _ hm.2;rw[lg,qD]at h1;simp only[ofQ_val]at h1;rw[key _ _ (fun X=>by
   show((-(b.l.getD i0 dS).x:Int):Rat)+((1:Int):Rat)*X=1*(X-((b.l.getD i0 dS).x:Rat))
   push_cast;grind)]at h1
  cases h1
 .have hm:yr (b.l.getD i0 dS).x∈dp b.l:=List.mem_append_right _ (List.mem_map.2 ⟨_,hx,O⟩);have h1:=h.2 _ hm;rw[lg,yr]at h1;simp only[ofQ_val]at h1;rw[key _ _ (fun X=>by
   show((b.l.getD i0 dS).x:Rat)+((-1:Int):Rat)*X = -1*(X-((b.l.getD i0 dS).x:Rat))
   push_cast;grind)]at h1
  cases h1
theorem CO {b:BR}(hb:b.Ok){z t:Rat}{x:Rat × Rat}(h:(bd b).guess z t=some x):HQ x.1 20000/\HQ x.2 20000:=by
 have key:∀p,(bd b).Inc p z t->(bd b).tryP z t p=some x->HQ x.1 20000/\HQ x.2 20000:=by
  intro p hp h;rw[Bd.tryP]at h;split at h
  .cases h
  .rename_i d hd;split at h
   .cases h;exact yM hb hp hd
   .cases h
 rw[Bd.guess]at h;split at h
 .rename_i y hy;cases h;exact key _ (CY hb z t) hy
 .exact key _ (Hu hb z t) h
theorem r6 {b:BR}(hb:b.Ok){t:Rat}{m:Nat}(ht:HQ t m)(hm:m<=19000)(hex:∃z,(bd b).w<=(bd b).F z t){x:Rat × Rat}(h:(bd b).at1 t=some x):HQ x.1 24000/\HQ x.2 20000:=by
 rw[Bd.at1]at h;split at h
 .cases h;rw[<-jF hb hex];exact⟨(xV hb ht hex).mono J,ht.mono J⟩
 .have:=CO hb h;exact⟨this.1.mono J,this.2⟩
theorem Ib {b:BR}(hb:b.Ok)(hex:∀t,∃z,(bd b).w<=(bd b).F z t){N:Nat}(hN:N<=150000){x:Rat × Rat}:∀(n j:Nat) (lo hi:Rat),n+j<=N->Dy N j lo->Dy N j hi->(bd b).bis n lo hi=some x->HQ x.1 24000/\HQ x.2 20000:=by
 intro n
 induction n with
 |zero=>intro j lo hi _ _ _ h;cases h
 |succ n ih =>
  intro j lo hi hj hlo hhi h;have hm:=hlo.mid hhi;rw[Bd.bis]at h;split at h
  .rename_i y hy;cases h;exact r6 hb hm.hq J (hex _) hy
  .split at h
   .exact ih (j+1) _ _ J hm hhi.up h
   .exact ih (j+1) _ _ J hlo.up hm h
theorem yo (b:Bd)(s:Rat):∀(n k:Nat) (W:Rat),b.dbl s n (p2 k)=some W->∃m,m<n+k/\W=p2 m:=by
 intro n
 induction n with
 |zero=>intro k W h;cases h
 |succ n ih =>
  intro k W h;rw[Bd.dbl]at h;split at h
  .rw[<-lY]at h;obtain⟨m,h1,h2⟩:=ih (k+1) W h;exact⟨m,J,h2⟩
  .cases h;exact⟨k,J,O⟩
theorem JB {b:BR}(hb:b.Ok)(hex:∀t,∃z,(bd b).w<=(bd b).F z t){x:Rat × Rat}(h:(bd b).eqQ 150000=some x):HQ x.1 24000/\HQ x.2 20000:=by
 generalize hN:(150000:Nat)=N at h;rw[Bd.eqQ]at h;split at h
 .rename_i wl wh h1 h2;obtain⟨k,hk,rfl⟩:=yo _ _ _ 0 _ (show(bd b).dbl (-1) N (p2 0)=some wl from h1);obtain⟨q,hq,rfl⟩:=yo _ _ _ 0 _ (show(bd b).dbl 1 N (p2 0)=some wh from h2);have hqk:HQ (p2 k) 10000:=u4.mono J;have hqq:HQ (p2 q) 10000:=u4.mono J;have hqn:HQ (-p2 k) 10000:=@HQ.neg _ _ hqk;split at h
  .rename_i y hy;cases h;rw[Bd.fst3]at hy;split at hy
   .rename_i z hz;cases hy;exact r6 hb HQ.zero Y (hex _) hz
   .split at hy
    .rename_i z hz;cases hy;exact r6 hb hqn Y (hex _) hz
    .exact r6 hb hqq Y (hex _) hy
  .refine Ib hb hex (N:=N) (show N<=150000 by omega) N 0 _ _ J ?_ ?_ h
   .exact⟨-((2^k:Nat):Int),by rw[p2];push_cast;grind,by rw[Int.natAbs_neg,Int.natAbs_natCast];exact Nat.pow_le_pow_right Y J⟩
   .exact⟨((2^q:Nat):Int),by rw[p2];push_cast;grind,by rw[Int.natAbs_natCast];exact Nat.pow_le_pow_right Y J⟩
 .cases h
theorem Hx (n:Nat):65536^n=2^(16*n):=by rw[show(65536:Nat)=2^16 by decide,<-Nat.pow_mul]
theorem JA {b:BR}(hb:b.Ok)(hs:(bd b).SzT)(h:lz b):∃x,(bd b).eqQ 150000=some x/\(bd b).Bal x.1 x.2/\HQ x.1 24000/\HQ x.2 20000:=by
 have hex:∀t,∃z,(bd b).w<=(bd b).F z t:=fun t=>Bd.enough (il hb) t (kZ h);obtain⟨m,hm⟩:∃m,m=3000:=⟨_,O⟩;have hK:65536^3000=2^(16*m):=by rw[<-hm];exact Hx m
 have hL:65536^(3000+3000+1)=2^(16*(m+m+1)):=by rw[<-hm];exact Hx (m+m+1)
 obtain⟨x,h1,h2⟩:=Bd.eq_some (il hb) hs (uP hb h) (AN h) (n:=150000) hK hL J J;exact⟨x,h1,h2,JB hb hex h1⟩
theorem ye {b:BR}(hb:b.Ok){z t:Rat}(h:(bd b).Bal z t)(A B:Rat):mV b A B=false:=by
 cases hr:mV b A B with
 |false=>rfl
 |true =>
  obtain⟨h1,h2⟩:=pD.1 hr;have h3:=Bd.exclude (il hb) h (A:=A) (B:=B) h1;have e:am (yT b.l A B) b.l.length=am (fun i=>if 0<A+B*(bd b).X i then(bd b).cap i*(A+B*(bd b).X i) else 0) (bd b).N:=O;rw[<-e]at h3;have h4:(b.w:Rat)*(A+B*b.a.val)<=am (yT b.l A B) b.l.length:=h3;grind
theorem zR {b:BR}(hb:b.Ok){z t:Rat}(h:(bd b).Bal z t):lz b:=⟨ye hb h _ _,fun _ _=>ye hb h _ _⟩
def Lb (x:Int):SR:=⟨x,RR.zero,⟨[0],[ofQ ((2:Int):Rat)]⟩⟩
def K_ (x:Int):SR:=⟨x,RR.zero,⟨[0,10],[ofQ ((5:Int):Rat),ofQ ((0:Int):Rat)]⟩⟩
def b1:BR:=⟨40,ofQ ((25:Int):Rat),[Lb 0,Lb 100]⟩
def b2:BR:=⟨80,ofQ ((75:Int):Rat),[K_ 0,K_ 100]⟩
theorem kT {z:Int}(h:i64 z):(ofQ (z:Rat)).sz 12:=⟨Nat.le_trans (vI h).sz.1 Y,Nat.le_trans (vI h).sz.2 Y⟩
theorem qt (z:Int)(h:i64 z):hq (z:Rat) 4:=(@HQ.int z (aK h.1 h.2)).ok
def Ji (s:SR):Prop:=i64 s.x/\∀z∈s.k.S,i64 z
def Jh (l:List SR):Prop:=∀s∈l,Ji s
theorem RR.sz.mono {x:RR}{n m:Nat}(h:x.sz n)(hm:n<=m):x.sz m:=⟨Nat.le_trans h.1 hm,Nat.le_trans h.2 hm⟩
section
variable {α:Type}
theorem tt (P M S:List α)(x y:α):((P++x::(M++y::S)).set P.length y).set (P.length+1+M.length) x=P++y::(M++x::S):=by
 rw[List.set_append_right _ _ (aP),Nat.sub_self,List.set_cons_zero,List.set_append_right _ _ J,show P.length+1+M.length-P.length=M.length+1 by omega,List.set_cons_succ,List.set_append_right _ _ (aP),Nat.sub_self,List.set_cons_zero]
theorem sE (P M S:List α)(x y:α):(P++x::(M++y::S))[P.length]? = some x:=by
 rw[List.getElem?_append_right (aP),Nat.sub_self];rfl
theorem sG (P M S:List α)(x y:α):(P++x::(M++y::S))[P.length+1+M.length]? = some y:=by
 rw[List.getElem?_append_right J,show P.length+1+M.length-P.length=M.length+1 by omega,List.getElem?_cons_succ,List.getElem?_append_right (aP),Nat.sub_self];rfl
def vW (P X M Y0 S:List α)(k:Nat):List α:=P++Y0.take k++X.drop k++M++X.take k++Y0.drop k++S
theorem iV {l:List α}{k:Nat}{x:α}(hx:l[k]? = some x):l.take (k+1)=l.take k++[x]:=by rw[List.take_add_one,hx];rfl
theorem f9 {l:List α}{k:Nat}{x:α}(hx:l[k]? = some x):l.drop k=x::l.drop (k+1):=by
 obtain⟨hl,e⟩:=bb hx;rw[List.drop_eq_getElem_cons hl,e]
theorem xY {P X M Y0 S:List α}{k:Nat}{x y:α}(hx:X[k]? = some x)(hy:Y0[k]? = some y):vW P X M Y0 S k=(P++Y0.take k)++x::((X.drop (k+1)++M++X.take k)++y::(Y0.drop (k+1)++S)):=by
 rw[vW,f9 hx,f9 hy];simp[List.append_assoc]
theorem EG {P X M Y0 S:List α}{k:Nat}{x y:α}(hx:X[k]? = some x)(hy:Y0[k]? = some y):vW P X M Y0 S (k+1)=(P++Y0.take k)++y::((X.drop (k+1)++M++X.take k)++x::(Y0.drop (k+1)++S)):=by
 rw[vW,iV hx,iV hy];simp[List.append_assoc]
theorem EH (P X M Y0 S:List α):vW P X M Y0 S 0=P++X++M++Y0++S:=by simp[vW]
theorem GH {P X M Y0 S:List α}(h:X.length=Y0.length):vW P X M Y0 S X.length=P++Y0++M++X++S:=by
 rw[vW,List.take_length,List.drop_length,h,List.take_length,List.drop_length];simp[List.append_assoc]
theorem GI {P X M Y0 S:List α}{k:Nat}{x y:α}(hx:X[k]? = some x)(hy:Y0[k]? = some y):(vW P X M Y0 S k)[P.length+k]? = some x:=by
 have hk:k<Y0.length:=(bb hy).1;have h:=sE (P++Y0.take k) (X.drop (k+1)++M++X.take k) (Y0.drop (k+1)++S) x y;rw[xY hx hy];rwa [show(P++Y0.take k).length=P.length+k by simp;omega]at h
theorem Ko {P X M Y0:List α}{k:Nat}(hx:k<X.length)(hy:k<Y0.length):(P++Y0.take k).length+1+(X.drop (k+1)++M++X.take k).length=P.length+X.length+M.length+k:=by simp;omega
theorem GK {P X M Y0 S:List α}{k:Nat}{x y:α}(hx:X[k]? = some x)(hy:Y0[k]? = some y):(vW P X M Y0 S k)[P.length+X.length+M.length+k]? = some y:=by
 have h:=sG (P++Y0.take k) (X.drop (k+1)++M++X.take k) (Y0.drop (k+1)++S) x y;rw[xY hx hy];rwa [Ko (bb hx).1 (bb hy).1]at h
theorem GJ {P X M Y0 S:List α}{k:Nat}{x y:α}(hx:X[k]? = some x)(hy:Y0[k]? = some y):((vW P X M Y0 S k).set (P.length+k) y).set (P.length+X.length+M.length+k) x=vW P X M Y0 S (k+1):=by
 have hk:k<Y0.length:=(bb hy).1;have h:=tt (P++Y0.take k) (X.drop (k+1)++M++X.take k) (Y0.drop (k+1)++S) x y;rw[EG hx hy,<-h,xY hx hy,Ko (bb hx).1 hk,show(P++Y0.take k).length=P.length+k by simp;omega]
variable {key:α->Rat}
def fD (key:α->Rat)(l:List α):Prop:=l.Pairwise fun x y=>key x<=key y
theorem mj {l:List α}{t:Nat}{v:α}(h:fD key l)(hv:l[t]? = some v):∀y∈l.drop t,key v<=key y:=by
 have h2:fD key (l.drop t):=List.Pairwise.sublist (List.drop_sublist t l) h;rw[f9 hv]at h2 ⊢;intro y hy;rcases List.mem_cons.1 hy with rfl|hy
 .exact Rat.le_refl
 .exact(List.pairwise_cons.1 h2).1 y hy
theorem mm {l:List α}{t:Nat}{v:α}(h:fD key l)(hv:l[t]? = some v):∀y∈l.take (t+1),key y<=key v:=by
 have h2:fD key (l.take (t+1)):=List.Pairwise.sublist (List.take_sublist (t+1) l) h;rw[iV hv]at h2 ⊢;intro y hy;rcases List.mem_append.1 hy with hy|hy
 .exact(List.pairwise_append.1 h2).2.2 y hy v (List.mem_singleton_self _)
 .rw[List.mem_singleton.1 hy];exact Rat.le_refl
def E4 (key:α->Rat)(A B:List α):Prop:=∀x∈A,∀y∈B,key x<=key y
theorem Fa {U V:List α}(hU:fD key U)(hV:fD key V){s t:Nat}(h:s=0\/t=V.length\/∃s' u v,s=s'+1/\U[s']? = some u/\V[t]? = some v/\key u<=key v):E4 key (U.take s) (V.drop t):=by
 intro x hx y hy;rcases h with rfl|rfl|⟨s',u,v,rfl,hu,hv,huv⟩
 .simp at hx
 .simp at hy
 .have h1:=mm hU hu x hx;have h2:=mj hV hv y hy;grind
theorem om {A B:List α}(hA:fD key A)(hB:fD key B)(h:E4 key A B):fD key (A++B):=List.pairwise_append.2 ⟨hA,hB,h⟩
theorem jE {l:List α}(h:fD key l)(n:Nat):fD key (l.take n):=List.Pairwise.sublist (List.take_sublist n l) h
theorem jD {l:List α}(h:fD key l)(n:Nat):fD key (l.drop n):=List.Pairwise.sublist (List.drop_sublist n l) h
theorem sD {U V W1 W2:List α}(hU:fD key U)(hV:fD key V){s t:Nat}(c1:E4 key (U.take s) (V.drop t))(c2:E4 key (V.take t) (U.drop s))(p1:W1.Perm (U.take s++V.take t))(p2:W2.Perm (U.drop s++V.drop t))(s1:fD key W1)(s2:fD key W2) :
  fD key (W1++W2)/\(W1++W2).Perm (U++V):=by
 have b1:E4 key (U.take s) (U.drop s):=by
  have h:=hU;rw[<-List.take_append_drop s U]at h;exact(List.pairwise_append.1 h).2.2
 have b2:E4 key (V.take t) (V.drop t):=by
  have h:=hV;rw[<-List.take_append_drop t V]at h;exact(List.pairwise_append.1 h).2.2
 refine⟨om s1 s2 fun x hx y hy=>?_,?_⟩
 .have hx:=List.mem_append.1 (p1.mem_iff.1 hx);have hy:=List.mem_append.1 (p2.mem_iff.1 hy);rcases hx with hx|hx<;>rcases hy with hy|hy
  .exact b1 x hx y hy
  .exact c1 x hx y hy
  .exact c2 x hx y hy
  .exact b2 x hx y hy
 .refine(p1.append p2).trans ?_;have e:U++V=U.take s++(U.drop s++V):=by rw[<-List.append_assoc,List.take_append_drop]
  rw[e,List.append_assoc];refine List.Perm.append_left _ ?_;have e2:U.drop s++V=U.drop s++(V.take t++V.drop t):=by rw[List.take_append_drop]
  rw[e2,<-List.append_assoc,<-List.append_assoc];exact List.Perm.append_right _ List.perm_append_comm
theorem rg {V:List α}(hV:fD key V){u:α}{t:Nat}(c1:∀y∈V.take t,key y<=key u)(c2:∀y∈V.drop t,key u<=key y):fD key (V.take t++u::V.drop t):=by
 have b2:E4 key (V.take t) (V.drop t):=by
  have h:=hV;rw[<-List.take_append_drop t V]at h;exact(List.pairwise_append.1 h).2.2
 refine om (jE hV t) (List.pairwise_cons.2 ⟨c2,jD hV t⟩) fun x hx y hy=>?_;rcases List.mem_cons.1 hy with rfl|hy
 .exact c1 x hx
 .exact b2 x hx y hy
theorem uW (V:List α)(u:α)(t:Nat):(V.take t++u::V.drop t).Perm (u::V):=by
 refine List.perm_middle.trans ?_;rw[List.take_append_drop]
end
set_option maxRecDepth 20000 in
theorem xZ {K:St->Prop}{s:St}{d g N Q:Nat}{x y z n c:Operand}{tys:Array TypeId}{ty:TypeId}{pos:String}{af:Array Edge}(P X M Y0 S:List BN)(hXY:X.length=Y0.length)(hN:N=(P++X++M++Y0++S).length)(hN1:N<=1000)(hQ:Q=P.length+X.length+M.length)
  (hx:s.ev x = .als 5 g 0 N) (hy:s.ev y=I P.length) (hz:s.ev z=I Q) (hn:s.ev n=I X.length) (hc:s.ev c = .clo 279 [])
  (ho:FitO s [(5,g,⟨303,8,(P++X++M++Y0++S).map bD,1⟩)])
  (hK:∀s1:St,K (({ reg:=s.reg,own:=(s1.over [] [(5,g,⟨303,8,(P++Y0++M++X++S).map bD,1⟩)]).own }:St).putR d (.tup []))) :
  Sm Tryz.prog lay.get s ⟨some d,.call ⟨.value (.func 313),#[x,y,z,n,c],tys⟩,ty,pos,af,none⟩ K:=by
 refine bT layOk O O Tryz.func313 O Y O O ?_;show PWP _ _ _ _ (bh s (([x,y,z,n,c]:List Operand).map s.ev++[]));rw[show(([x,y,z,n,c]:List Operand).map s.ev++([]:List PV))=[.als 5 g 0 N,I P.length,I Q,I X.length,.clo 279 []] by simp[hx,hy,hz,hn,hc]];rw[show bh s [.als 5 g 0 N,I P.length,I Q,I X.length,.clo 279 []]=bh (s.over [] [(5,g,⟨303,8,(P++X++M++Y0++S).map bD,1⟩)]) [.als 5 g 0 N,I P.length,I Q,I X.length,.clo 279 []] by rw[Fit.over (l:=[]) ho]];have hlen:N=P.length+X.length+M.length+Y0.length+S.length:=by rw[hN];simp;omega
 refine H ?_;refine ap (fun k=>k<=X.length) (fun k=>[(0,.als 5 g 0 N),(1,I P.length),(2,I Q),(3,I X.length),(10,I (k:Nat))])
  (fun k=>[(5,g,⟨303,8,(vW P X M Y0 S k).map bD,1⟩)]) (fun k=>X.length-k) 0 (Nat.zero_le _) ⟨O,O,O,O,O,by rw[EH];rfl,trivial⟩ ?_
 intro k s1 hk;refine D ?_ ?_<;>intro h
 .have hlt:k<X.length:=by have:=aC h;omega
  clear h;obtain⟨p,hp⟩:=aJ hlt;obtain⟨q,hq⟩:=aJ (show k<Y0.length by omega);have hw1:IntKind.i64.wrap (((P.length:Nat):Int)+(k:Nat))=((P.length+k:Nat):Int):=by rw[wrap_i64 J J];omega
  have hw2:IntKind.i64.wrap (((Q:Nat):Int)+(k:Nat))=((Q+k:Nat):Int):=by rw[wrap_i64 J J];omega
  have hw:=fc k;have hr1:((vW P X M Y0 S k).map bD)[P.length+k]? = some (bD p):=by rw[List.getElem?_map,GI hp hq];rfl
  have hr2:((vW P X M Y0 S k).map bD)[Q+k]? = some (bD q):=by rw[List.getElem?_map,hQ,GK hp hq];rfl
  refine H ?_;refine aZ 21 0 [16,17,18,19,20,21,22,23,24,25,26,27,28,29,30,31,32,33,34,35,36] [4,5,6,7] aT O ?_;refine H ?_;rw[hw1,hw2];refine jY O O O O O O O O O ?_;rw[Int.toNat_natCast,Nat.zero_add (Q+k)];refine bE O O (cu O O O hr2 O) ?_;refine H ?_;rw[hw1];refine jY O O O O O O O O O ?_;rw[Int.toNat_natCast,Nat.zero_add (P.length+k)];refine bE O O (cu O O O hr1 O) ?_;refine H ?_;refine jY O O O O O O O O O ?_;rw[Int.toNat_natCast,Nat.zero_add (P.length+k)];refine H ?_;refine bL (bN (kd':=1) O O O hr1 O O aI O O O O ?_);refine jY O O O O O O O O O ?_;rw[Int.toNat_natCast,Nat.zero_add (Q+k)];refine bL (bN (kd':=1) O O O (row:=bD q) (by
   show(((vW P X M Y0 S k).map bD).set (P.length+k) _)[Q+k]? = _
   rw[List.getElem?_set_ne J];exact hr2) O O aI O O O O ?_)
  refine H ?_;refine⟨k+1,hlt,J,O,O,O,O,congrArg I hw,?_,trivial⟩;refine Eq.trans (b:=(g,some (Cont.mk 303 8 ((((vW P X M Y0 S k).map bD).set (P.length+k) (bD q)).set (Q+k) (bD p)) 1))) O ?_;rw[<-List.map_set,<-List.map_set,hQ,GJ hp hq]
 .have hge:k=X.length:=by have:=aG h;omega
  clear h;rw[hge,GH hXY];refine H ?_;exact db O (hK s1)
def Hh (P U V S:List BN)(q:List BN × List BN × List BN × List BN):Prop:=q.2.1≠[]/\q.2.2.1≠[]/\q.1.length+q.2.1.length=P.length+U.length/\q.1++q.2.2.1++q.2.1++q.2.2.2=P++V++U++S
def A6 (q:List BN × List BN × List BN × List BN):List BN:=q.1++q.2.1++q.2.2.1++q.2.2.2
theorem DV {P U V S:List BN}{q:List BN × List BN × List BN × List BN}(h:Hh P U V S q):(A6 q).length=(P++U++V++S).length:=by
 have:=congrArg List.length h.2.2.2;simp only[A6,List.length_append]at *
 omega
set_option maxRecDepth 20000 in
theorem IQ {K:St->Prop}{s:St}{d g N:Nat}{x y z n c:Operand}{tys:Array TypeId}{ty:TypeId}{pos:String}{af:Array Edge}(P U V S:List BN)(hU:U≠[])(hV:V≠[])(hN:N=(P++U++V++S).length)(hN1:N<=1000)
  (hx:s.ev x = .als 5 g 0 N) (hy:s.ev y=I P.length) (hz:s.ev z=I (P.length+U.length:Nat)) (hn:s.ev n=I (P.length+U.length+V.length:Nat)) (hc:s.ev c = .clo 279 [])
  (ho:FitO s [(5,g,⟨303,8,(P++U++V++S).map bD,1⟩)])
  (hK:∀s1:St,K (({ reg:=s.reg,own:=(s1.over [] [(5,g,⟨303,8,(P++V++U++S).map bD,1⟩)]).own }:St).putR d (.tup []))) :
  Sm Tryz.prog lay.get s ⟨some d,.call ⟨.value (.func 311),#[x,y,z,n,c],tys⟩,ty,pos,af,none⟩ K:=by
 have hlen:N=P.length+U.length+V.length+S.length:=by rw[hN];simp;omega
 generalize hm:P.length+U.length=m at *
 refine bT layOk O O Tryz.func311 O Y O O ?_;show PWP _ _ _ _ (bh s (([x,y,z,n,c]:List Operand).map s.ev++[]));rw[show(([x,y,z,n,c]:List Operand).map s.ev++([]:List PV))=[.als 5 g 0 N,I P.length,I m,I (m+V.length:Nat),.clo 279 []] by simp[hx,hy,hz,hn,hc]];rw[show bh s [.als 5 g 0 N,I P.length,I m,I (m+V.length:Nat),.clo 279 []]=bh (s.over [] [(5,g,⟨303,8,(P++U++V++S).map bD,1⟩)]) [.als 5 g 0 N,I P.length,I m,I (m+V.length:Nat),.clo 279 []] by rw[Fit.over (l:=[]) ho]];have hwa:IntKind.i64.wrap (((m:Nat):Int)-(P.length:Nat))=(U.length:Nat):=by rw[wrap_i64 J J];omega
 have hwb:IntKind.i64.wrap (((m+V.length:Nat):Int)-(m:Nat))=(V.length:Nat):=by rw[wrap_i64 J J];omega
 refine H ?_;rw[hwa];refine H ?_;rw[hwb];refine ap (Hh P U V S) (fun q=>[(0,.als 5 g 0 N),(2,I m),(4,.clo 279 []),(10,I q.2.1.length),(11,I q.2.2.1.length)])
  (fun q=>[(5,g,⟨303,8,(A6 q).map bD,1⟩)]) (fun q=>q.2.1.length+q.2.2.1.length) (P,U,V,S) ⟨hU,hV,O,O⟩ ⟨O,O,O,O,O,O,trivial⟩ ?_
 rintro⟨A,X,Y0,B⟩ s1 hq;have hql:=DV hq;obtain⟨hX,hY,hAm,heq⟩:=hq;simp only at hX hY hAm heq;have hX0:0<X.length:=List.length_pos_iff.2 hX;have hY0:0<Y0.length:=List.length_pos_iff.2 hY;rw[hm]at hAm;simp only[A6]at hql;rw[<-hN]at hql;have hql2:N=A.length+X.length+Y0.length+B.length:=by rw[<-hql];simp;omega
 dsimp only[A6];refine D ?_ ?_<;>intro h
 .have hne:X.length≠Y0.length:=by
   intro e;simp[e]at h
  clear h;refine D ?_ ?_<;>intro h
  .have hgt:Y0.length<X.length:=by have:=aC h;omega
   clear h;have hw1:IntKind.i64.wrap (((m:Nat):Int)-(X.length:Nat))=(A.length:Nat):=by rw[wrap_i64 J J];omega
   have hw2:IntKind.i64.wrap (((X.length:Nat):Int)-(Y0.length:Nat))=((X.drop Y0.length).length:Nat):=by rw[wrap_i64 J J,List.length_drop];omega
   have htl:(X.take Y0.length).length=Y0.length:=by rw[List.length_take];omega
   have hsp:A++X++Y0++B=A++X.take Y0.length++X.drop Y0.length++Y0++B:=by
    rw[List.append_assoc A (X.take _),List.take_append_drop]
   have hmQ:m=A.length+(X.take Y0.length).length+(X.drop Y0.length).length:=by rw[htl,List.length_drop];omega
   rw[hsp]
   ((repeat ((fail_if_success (with_reducible refine aQ 4 ?_));refine cx O ?_));refine aM 7 ?_)
   refine H ?_;refine aV O (xZ (N:=N) (Q:=m) A (X.take Y0.length) (X.drop Y0.length) Y0 B htl (by rw[<-hsp];exact hql.symm) hN1 hmQ O (congrArg I hw1) O (by rw[htl];rfl) O ⟨O,trivial⟩ fun s2=>?_);refine aO ?_;refine H ?_;refine⟨(A++Y0,X.drop Y0.length,X.take Y0.length,B),⟨?_,?_,?_,?_⟩,?_,O,O,O,congrArg I hw2,by rw[htl];rfl,O,trivial⟩
   .intro e;have:=congrArg List.length e;rw[List.length_drop]at this;simp at this;omega
   .intro e;have e2:(X.take Y0.length).length=0:=by rw[show X.take Y0.length=[] from e];rfl
    omega
   .have hd:(X.drop Y0.length).length=X.length-Y0.length:=List.length_drop;show(A++Y0).length+(X.drop Y0.length).length=P.length+U.length;rw[List.length_append,hd,hm];omega
   .simp only;rw[<-heq];have e:X.take Y0.length++X.drop Y0.length=X:=List.take_append_drop _ _
    calc A++Y0++X.take Y0.length++X.drop Y0.length++B=A++Y0++(X.take Y0.length++X.drop Y0.length)++B:=by simp[List.append_assoc]
     _=A++Y0++X++B:=by rw[e]
   .have hd:(X.drop Y0.length).length=X.length-Y0.length:=List.length_drop;show(X.drop Y0.length).length+(X.take Y0.length).length<X.length+Y0.length;omega
  .have hlt:X.length<Y0.length:=by have:=aG h;omega
   clear h;obtain⟨w,hw⟩:∃w,w=Y0.length-X.length:=⟨_,O⟩;have hw1:IntKind.i64.wrap (((m:Nat):Int)-(X.length:Nat))=(A.length:Nat):=by rw[wrap_i64 J J];omega
   have hw3:IntKind.i64.wrap (((m:Nat):Int)+(Y0.length:Nat))=((m+Y0.length:Nat):Int):=by rw[wrap_i64 J J];omega
   have hw4:IntKind.i64.wrap (((m+Y0.length:Nat):Int)-(X.length:Nat))=((m+w:Nat):Int):=by rw[wrap_i64 J J];omega
   have htl:(Y0.take w).length=w:=by rw[List.length_take];omega
   have hdl:(Y0.drop w).length=X.length:=by rw[List.length_drop];omega
   have hw2:IntKind.i64.wrap (((Y0.length:Nat):Int)-(X.length:Nat))=((Y0.take w).length:Nat):=by rw[wrap_i64 J J,htl];omega
   have hsp:A++X++Y0++B=A++X++Y0.take w++Y0.drop w++B:=by
    rw[List.append_assoc (A++X) (Y0.take _),List.take_append_drop]
   rw[hsp]
   ((repeat ((fail_if_success (with_reducible refine aQ 6 ?_));refine cx O ?_));refine aM 11 ?_)
   refine H ?_;rw[hw3];refine H ?_;refine aV O (xZ (N:=N) (Q:=m+w) A X (Y0.take w) (Y0.drop w) B hdl.symm (by rw[<-hsp];exact hql.symm) hN1 (by rw[htl];omega) O (congrArg I hw1) (congrArg I hw4) O O ⟨O,trivial⟩ fun s2=>?_);refine aO ?_;refine H ?_;refine⟨(A,Y0.drop w,Y0.take w,X++B),⟨?_,?_,?_,?_⟩,?_,O,O,O,by rw[hdl];rfl,congrArg I hw2,?_,trivial⟩
   .intro e;have e2:(Y0.drop w).length=0:=by rw[show Y0.drop w=[] from e];rfl
    omega
   .intro e;have e2:(Y0.take w).length=0:=by rw[show Y0.take w=[] from e];rfl
    omega
   .show A.length+(Y0.drop w).length=P.length+U.length;rw[hdl,hm];omega
   .simp only;rw[<-heq];have e:Y0.take w++Y0.drop w=Y0:=List.take_append_drop _ _
    calc A++Y0.take w++Y0.drop w++(X++B)=A++(Y0.take w++Y0.drop w)++X++B:=by simp[List.append_assoc]
     _=A++Y0++X++B:=by rw[e]
   .show(Y0.drop w).length+(Y0.take w).length<X.length+Y0.length;omega
   .dsimp only[A6];rw[show A++Y0.drop w++Y0.take w++(X++B)=A++Y0.drop w++Y0.take w++X++B by simp[List.append_assoc]];rfl
 .have he:X.length=Y0.length:=by
   have h2:((X.length:Nat):Int)=((Y0.length:Nat):Int):=by simpa using h
   omega
  clear h;have hw1:IntKind.i64.wrap (((m:Nat):Int)-(X.length:Nat))=(A.length:Nat):=by rw[wrap_i64 J J];omega
  have hsp:A++X++Y0++B=A++X++[]++Y0++B:=ah;rw[hsp]
  ((repeat ((fail_if_success (with_reducible refine aQ 8 ?_));refine cx O ?_));refine aM 7 ?_)
  refine H ?_;refine aV O (xZ (N:=N) (Q:=m) A X [] Y0 B he (by rw[<-hsp];exact hql.symm) hN1 aU O (congrArg I hw1) O O O ⟨O,trivial⟩ fun s2=>?_);refine aO ?_;refine H ?_;rw[show A++Y0++[]++X++B=P++V++U++S by rw[List.append_nil];exact heq];exact db O (hK s2)
section
variable {α:Type}{key:α->Rat}
def cX (key:α->Rat)(c:Rat)(l:List α):List α:=l.filter fun x=>decide (key x=c)
theorem a_ (c:Rat)(A B:List α):cX key c (A++B)=cX key c A++cX key c B:=List.filter_append ..
theorem eo {c:Rat}{a:α}(l:List α)(h:key a=c):cX key c (a::l)=a::cX key c l:=List.filter_cons_of_pos (by simpa using h)
theorem gJ {c:Rat}{a:α}(l:List α)(h:key a≠c):cX key c (a::l)=cX key c l:=List.filter_cons_of_neg (by simpa using h)
theorem d_ {c:Rat}{a:α}{l:List α}:a∈cX key c l↔a∈l/\key a=c:=by rw[cX,List.mem_filter,decide_eq_true_eq]
theorem CB:∀ {A B:List α},fD key A->fD key B->(∀c,cX key c A=cX key c B)->A=B
 |[],[],_,_,_=>rfl
 |[],b::B,_,_,h=>by
  have:b∈cX key (key b) ([]:List α):=by rw[h];exact d_.2 ⟨List.mem_cons_self ..,O⟩
  cases this
 |a::A,[],_,_,h=>by
  have:a∈cX key (key a) ([]:List α):=by rw[<-h];exact d_.2 ⟨List.mem_cons_self ..,O⟩
  cases this
 |a::A,b::B,hA,hB,h=>by
  obtain⟨a1,a2⟩:=List.pairwise_cons.1 hA;obtain⟨b1,b2⟩:=List.pairwise_cons.1 hB;have ha:a∈b::B:=(d_.1 (by rw[<-h];exact d_.2 ⟨List.mem_cons_self ..,O⟩:a∈cX key (key a) (b::B))).1;have hb:b∈a::A:=(d_.1 (by rw[h];exact d_.2 ⟨List.mem_cons_self ..,O⟩:b∈cX key (key b) (a::A))).1;have k1:key b<=key a:=by
   rcases List.mem_cons.1 ha with e|e
   .rw[e];exact Rat.le_refl
   .exact b1 a e
  have k2:key a<=key b:=by
   rcases List.mem_cons.1 hb with e|e
   .rw[e];exact Rat.le_refl
   .exact a1 b e
  have hk:key b=key a:=Rat.le_antisymm k1 k2;have h0:=h (key a);rw[eo _ O,eo _ hk]at h0;have hab:a=b:=(List.cons.inj h0).1;subst hab;congr 1;refine CB a2 b2 fun c=>?_;have hc:=h c;by_cases e:key a=c
  .rw[eo _ e,eo _ e]at hc;exact(List.cons.inj hc).2
  .rwa [gJ _ e,gJ _ e]at hc
def Jf (key:α->Rat)(A B:List α):Prop:=∀x∈A,∀y∈B,key x<key y
theorem FB {A B:List α}(h:Jf key A B)(c:Rat):cX key c A=[]\/cX key c B=[]:=by
 rcases Classical.em (cX key c A=[]) with e|e
 .exact .inl e
 .refine .inr (List.eq_nil_iff_forall_not_mem.2 fun y hy=>?_);obtain⟨x,hx⟩:=List.exists_mem_of_ne_nil _ e;obtain⟨hx1,hx2⟩:=d_.1 hx;obtain⟨hy1,hy2⟩:=d_.1 hy;have:=h x hx1 y hy1;rw[hx2,hy2]at this;exact absurd this (Rat.lt_irrefl)
theorem oW {A B:List α}(h:Jf key A B)(c:Rat):cX key c (A++B)=cX key c (B++A):=by
 rw[a_,a_];rcases FB h c with e|e<;>rw[e]<;>simp
theorem wR {U V W1 W2:List α}{s t:Nat}(c2:Jf key (V.take t) (U.drop s))(p1:∀c,cX key c W1=cX key c (U.take s++V.take t))(p2:∀c,cX key c W2=cX key c (U.drop s++V.drop t))(c:Rat):cX key c (W1++W2)=cX key c (U++V):=by
 have h:=oW c2 c;rw[a_,a_]at h;have eU:cX key c U=cX key c (U.take s)++cX key c (U.drop s):=by rw[<-a_,List.take_append_drop]
 have eV:cX key c V=cX key c (V.take t)++cX key c (V.drop t):=by rw[<-a_,List.take_append_drop]
 rw[a_,p1,p2,a_,a_,a_,eU,eV,List.append_assoc,<-List.append_assoc (cX key c (V.take t)),h];simp only[List.append_assoc]
end
variable {α:Type}{key:α->Rat}
theorem CD {c:Rat}{l:List α}(h:∀x∈l,key x≠c):cX key c l=[]:=List.eq_nil_iff_forall_not_mem.2 fun x hx=>h x (d_.1 hx).1 (d_.1 hx).2
theorem C6 (l:List α)(x:α)(c:Rat):cX key c (kR key l x)=cX key c (l++[x]):=by
 obtain⟨h1,h2⟩:=mP key l x l.length (aP);rw[kR,b_,u9];generalize nQ key l x l.length=k at *
 have e:cX key c l=cX key c (l.take k)++cX key c (l.drop k):=by rw[<-a_,List.take_append_drop]
 rw[a_,a_,e];by_cases hx:key x=c
 .have hd:cX key c (l.drop k)=[]:=CD fun y hy hyc=>by
   obtain⟨q,hq⟩:=List.mem_iff_getElem?.1 hy;rw[List.getElem?_drop]at hq;have:=h2 (k+q) y J (bb hq).1 hq;rw[hx,hyc]at this;exact absurd this Rat.lt_irrefl
  rw[eo _ hx,hd,eo _ hx];simp[cX]
 .rw[gJ _ hx,gJ _ hx];simp[cX]
theorem nf (l:List α)(c:Rat):cX key c (b8 key l)=cX key c l:=by
 have:∀(l acc:List α),cX key c (l.foldl (kR key) acc)=cX key c (acc++l):=by
  intro l
  induction l with
  |nil=>intro acc;rw[List.append_nil];rfl
  |cons x l ih =>
   intro acc;rw[List.foldl_cons,ih,a_,C6,a_,a_,show x::l=[x]++l from O,a_];simp only[List.append_assoc]
 have h:=this l [];rwa [List.nil_append]at h
theorem Bs {W l:List α}(hs:fD key W)(hf:∀c,cX key c W=cX key c l):W=b8 key l :=
 CB hs (fV key l) fun c=>by rw[hf,nf]
end Go.Pv
