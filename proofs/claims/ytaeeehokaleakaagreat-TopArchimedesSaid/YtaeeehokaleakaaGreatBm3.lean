/- Texts of one hand, gathered: FaD, FbH, FbI, FbJ, FbK, FbL, FbM, FbN, FbO, FbP, FbQ, FrA, FrB, FrC, FrD, FrE, FrF, FrG, FrH, FaE, FmA, FmB, FcA, PvRg, FcB, FcC, FmC, FmD, FmE, FmF, FmG, FmH, FmI, FcD, FcE, FcF, FcG, FcH, FcI, FcJ, FcK, FcL, FcM, FcN, FcO, FcP, LeC, Shelf, FcQ, FcR, FcS, FcT, FcU, FcV, FdV, FcW. -/
import Derived.Test.YtaeeehokaleakaaGreatBm2
import Derived.Sort.Grow
import Derived.Shelf.GgSortFunc.RowK
import Derived.Shelf.Small.Bits
import Derived.Shelf.Small.Wraps
import Derived.Shelf.Strconv.Itoa0
import Derived.Shelf.Sort.Plain
import Derived.Ground.Names2Prog
import Derived.Shelf.Slices.Clone
import Derived.Shelf.Slices.CompactI
import Derived.Shelf.Slices.SearchI
import Derived.Shelf.Slices.Cells
import Derived.Shelf.Slices.In.SortNone
import Derived.Test.YtaeeehokaleakaaGreatProg
import Derived.Lib.SlicesCompact
set_option maxRecDepth 20000
set_option linter.unusedSectionVars false
set_option linter.unusedSimpArgs false
set_option linter.unusedVariables false
set_option linter.unnecessarySimpa false
namespace Go.Pv
class HQ (q:Rat) (n:outParam Nat):Prop where
 ok:hq q n
class Vq (x:RR) (p:outParam Rat) (n:outParam Nat):Prop where
 val:x.val=p
 sz:x.n.l.length<=n/\x.d.l.length<=n
class Zb (z:Int):Prop where
 ok:z.natAbs<65536^4
theorem HQ.pos {q:Rat}{n:Nat}(h:HQ q n):1<=n:=CY h.ok
theorem HQ.mono {q:Rat}{n m:Nat}(h:HQ q n)(hm:n<=m):HQ q m:=⟨ep h.ok hm⟩
instance HQ.add {p q:Rat} {n m:Nat} [h1:HQ p n] [h2:HQ q m]:HQ (p+q) (n+m+1):=⟨s_ h1.ok h2.ok⟩
instance HQ.sub {p q:Rat} {n m:Nat} [h1:HQ p n] [h2:HQ q m]:HQ (p-q) (n+m+1):=⟨by rw[kz];exact s_ h1.ok (qi h2.ok)⟩
instance HQ.mul {p q:Rat} {n m:Nat} [h1:HQ p n] [h2:HQ q m]:HQ (p*q) (n+m):=⟨CX h1.ok h2.ok⟩
instance HQ.div {p q:Rat} {n m:Nat} [h1:HQ p n] [h2:HQ q m]:HQ (p/q) (n+m):=⟨CW h1.ok h2.ok⟩
instance HQ.neg {q:Rat} {n:Nat} [h:HQ q n]:HQ (-q) n:=⟨qi h.ok⟩
instance HQ.int {z:Int} [h:Zb z]:HQ (z:Rat) 4:=⟨i5 h.ok Y⟩
instance HQ.zero:HQ (0:Rat) 4:=⟨i5 (z:=0) Y Y⟩
instance HQ.one:HQ (1:Rat) 4:=⟨i5 (z:=1) Y Y⟩
instance HQ.two:HQ (2:Rat) 4:=⟨i5 (z:=2) Y Y⟩
instance Vq.ofQ {q:Rat} {n:Nat} [h:HQ q n]:Vq (ofQ q) q n:=⟨Go.Pv.ofQ_val q,(lj h.ok).ok⟩
instance Vq.zero:Vq RR.zero 0 0:=⟨RR.zero_val,aH,aH⟩
theorem Vq.hq {x:RR}{p:Rat}{n:Nat}(h:Vq x p n):HQ p (n+1):=⟨by rw[<-h.val];exact SZ.hq ⟨h.sz⟩⟩
theorem Vq.raw {x:RR}{n:Nat}(h1:x.n.l.length<=n)(h2:x.d.l.length<=n):Vq x x.val n:=⟨O,h1,h2⟩
theorem aL {z:Int}(h0 : -9223372036854775808<=z)(h1:z<=9223372036854775807):Zb z:=⟨by
 have:(65536:Nat)^4=18446744073709551616:=Y
 omega⟩
def am (f:Nat->Rat):Nat->Rat
 |0=>0
 |n+1=>am f n+f n
theorem dc {f g:Nat->Rat}:∀ {n:Nat},(∀k,k<n->f k=g k)->am f n=am g n
 |0,_=>rfl
 |n+1,h=>by rw[am,am,dc fun k hk=>h k J,h n J]
theorem bw {f:Nat->Rat}{m:Nat}:∀(n:Nat),(∀k,k<n->HQ (f k) m)->HQ (am f n) (n*(m+1)+4)
 |0,_=>by rw[fT,aG];exact HQ.zero
 |n+1,h=>by
  have h1:=bw n fun k hk=>h k J;have h2:=h n J;exact(HQ.add (h1:=h1) (h2:=h2)).mono (by rw[be];omega)
theorem il {f:Nat->Rat}:∀ {n:Nat},(∀k,k<n->0<=f k)->0<=am f n
 |0,_=>by rw[am];exact du
 |n+1,h=>by
  have h1:=il (f:=f) (n:=n) fun k hk=>h k J;have h2:=h n J;rw[am];grind
set_option maxHeartbeats 2000000
attribute [local irreducible] PWP POps PQuiet PSem XThen XBlock RetPost InlPost
open Go.Proofs
theorem CB {L:b9}{s:St}{fn:Func}{r d:PV}{l:List PV}{A Cd:Prop}{fl:Fl}(h:DX L s fn.results.toList=some (l,A))(ha:A)(hres:fJ s 5 (jE l)=some (d,Cd,fl))(hc:Cd)(hd:d=r):RetPost L fn .shared r .ret s:=by
 unfold RetPost;exact⟨l,A,d,Cd,fl,h,ha,hres,hc,trivial,hd⟩
theorem JA {L:b9}{s:St}{fn:Func}{r d:PV}{l:List PV}{A Cd:Prop}{fl:Fl}(h:DX L s fn.results.toList=some (l,A))(hres:fJ s 5 (jE l)=some (d,Cd,fl))(hd:d=r)(ha:A:=by repeat' constructor)(hc:Cd:=by repeat' constructor):RetPost L fn .shared r .ret s:=CB h ha hres hc hd
theorem cy {G0:Prop}{L:b9}{s:St}{fn:Func}{r d:PV}{l:List PV}{A Cd:Prop}{fl:Fl}(hr:RetPost L fn .shared r .ret s->G0:=by(intro k;(repeat refine g_ O ?_);exact k))(h:DX L s fn.results.toList=some (l,A):=by exact O)(hres:fJ s 5 (jE l)=some (d,Cd,fl):=by exact O)(hd:d=r:=by exact O)(ha:A:=by repeat' constructor)(hc:Cd:=by repeat' constructor):G0:=hr (JA h hres hd ha hc)
def eI (a:RI):List PV:=[.bool a.neg,.sl (a.l.map eU)]
def eR (x:RR):List PV:=[.bool x.n.neg,.sl (x.n.l.map eU),.bool x.d.neg,.sl (x.d.l.map eU)]
theorem Du:dQ 0=⟨false,[]⟩:=by rw[dQ];simp[bN]
def iU (neg:Bool)(n:Nat):Int:=if neg then -(n:Int) else n
theorem pt (neg:Bool)(n:Nat):dQ (iU neg n)=if n=0 then⟨false,[]⟩ else⟨neg,aq n⟩:=by
 split
 .rename_i h;subst h;cases neg<;>exact Du
 .rename_i h;cases neg
  .rw[dQ,iU];simp only[cF,if_false,fN];rw[decide_eq_false J]
  .rw[dQ,iU];simp only[if_true,pg,fN];rw[decide_eq_true J]
theorem RI.val_sgz (a:RI):a.val=iU a.neg (nv a.l):=rfl
theorem pX (l:List UInt16)(hl:l.length<=300000000):Ret Tryz.prog .fresh 270 [.sl (l.map eU)] (.sl (l.map eU)):=by
 refine ay Proofs.Tryz.func270 ?_
 (refine dN 1 ?_;refine aD 1 ?_)
 refine g_ O ?_;refine bg ?_;refine aU O (kT dY O O O (fun h0=>?_) ?_)
 .rw[h0];refine aE ?_
  (repeat ((fail_if_success (with_reducible refine fY ?_));refine Ab O ?_))
  refine ax (Ghost.nilfs (t:=2) O) ?_;refine H ?_;exact vo O O O trivial O
 .refine aE ?_;refine H ?_;refine aC (b8 0 O O O O O O O O O O O ak O ?_);refine H ?_;refine aC (cQ 1 O O O O O O O O O O O ak (by intro row hr;obtain⟨p,_,rfl⟩:=bF.1 hr;rfl) O O aX aX ?_)
  (repeat ((fail_if_success (with_reducible refine fY ?_));refine Ab O ?_))
  refine ax (Ghost.takeF (k:=5) (t:=2) l O O O O (fun _=>rfl)) ?_;refine H ?_;exact vo O O O ak O
theorem fg (neg:Bool)(l:List UInt16)(hl:l.length<=300000000):bb 206 [.bool neg,.sl (l.map eU)] (.agg (eI (dQ (iU neg (nv l))))):=by
 have ht:=cZ l J;have hml:((a_ l).map eU).length=(a_ l).length:=aj;have htl:=dy l;rw[pt];by_cases h0:nv l=0
 .rw[if_pos h0];have hz:a_ l=[]:=by rw[a_,h0,bN]
  rw[hz]at ht;refine ay Proofs.Tryz.func206 ?_;refine G ht ?_
  (repeat ((fail_if_success (with_reducible refine fY ?_));refine Ab O ?_))
  refine ax (Ghost.nilcell (k:=1000) (k0:=4) (i:=0) (j:=1) 218 1 0 O O O O (row:=[.bool false,.nil]) O O O) ?_;exact cy
 .rw[if_neg h0];have hz:(a_ l).length≠0:=by
   intro h;have h1:=gh l;rw[nP.1 h]at h1;exact h0 h1.symm
  have hc:=pX (a_ l) J;rw[a_]at *
  generalize aq (nv l)=t at *
  refine ay Proofs.Tryz.func206 ?_;refine G ht ?_;refine D ?_ ?_<;>intro h
  .have:=bK h;omega
  .clear h;refine I6 hc ?_;exact cy
theorem xk (l:List UInt16)(hl:l.length<=300000000):bb 271 [.sl (l.map eU)] (if l.length<=4 then .tup [.int .u64 (nv l:Nat),.bool true] else .tup [.int .u64 0,.bool false]):=by
 have hml:(l.map eU).length=l.length:=aj;by_cases h4:l.length<=4
 .rw[if_pos h4];have hw0:IntKind.i64.wrap (((((l.map eU).length:Nat):Int))-1)=(l.length:Int)-1:=by rw[hml,wrap_i64 J J]
  refine ay Proofs.Tryz.func271 ?_;refine D ?_ ?_<;>intro h
  .have:=bK h;omega
  clear h;refine H ?_;rw[hw0];refine ao (fun k:Nat=>k<=l.length) (fun k=>[(0,.sl (l.map eU)),(4,.int .u64 (nv (l.drop k):Nat)),(5,I ((k:Int)-1))]) (fun _=>[]) (fun k=>k) l.length (aH) ⟨O,?_,O,bP⟩ ?_
  .rw[iw];rfl
  intro k s hk;refine D ?_ ?_<;>intro h
  .have hk0:0<k:=cP h;clear h;obtain⟨j,rfl⟩:∃j,k=j+1:=⟨k-1,J⟩;have e1:(((j+1:Nat):Int)-1)=(j:Nat):=J;rw[e1];obtain⟨x,hx⟩:=aK (show j<l.length by omega);have hxl:=bm x;have hd:=fH hx;have hlt:=cX (l.drop (j+1));have hp:65536^(l.drop (j+1)).length<=65536^3:=fb Y (by rw[fR];omega);have hp3:65536^3=281474976710656:=Y;generalize nv (l.drop (j+1))=a at *
   have hor:=H1 (x:=a) (y:=x.toNat) J hxl;have ex:IntKind.u64.wrap (x.toNat:Int)=(x.toNat:Int):=wrap_u64 J J;refine H ?_;rw[Ed J];refine Gb O O O O O O O hx O ?_;refine H ?_;rw[ex,hor];refine H ?_;refine⟨j,J,J,O,?_,?_,bP⟩
   .show PV.int .u64 ((a*65536+x.toNat:Nat):Int)=_;rw[hd,show x.toNat+65536*a=a*65536+x.toNat by omega]
   .exact congrArg I (wrap_i64 J J)
  .have hk0:k=0:=cG h;subst hk0;clear h;rw[fS];generalize nv l=v;refine H ?_;exact xG O O O O O trivial trivial O
 .rw[if_neg h4];refine ay Proofs.Tryz.func271 ?_;refine D ?_ ?_<;>intro h
  .refine H ?_;exact xG O O O O O trivial trivial O
  .have:=cJ h;omega
theorem oA (n:Nat)(hn:n<18446744073709551616):bb 207 [.int .u64 (n:Nat)] (.sl ((aq n).map eU)):=by
 refine ay Proofs.Tryz.func207 ?_
 ((repeat (first|refine bg ?_ | refine d_ ?_ | refine dK ?_ | refine dT ?_));refine bV ?_)
 refine m9 O trivial ?_
 ((repeat (first|refine bg ?_ | refine d_ ?_ | refine dK ?_ | refine dT ?_));refine bV ?_)
 (first|refine aC (j4 218 1 0 O O ?_)|refine aC (j3 218 1 0 O O ?_))
 refine H ?_;refine ao (fun q:Nat × List UInt16=>aq n=q.2++aq q.1/\q.1*65536^q.2.length<=n) (fun q=>[(0,.int .u64 (q.1:Nat)),(3,.als 3 (1+q.2.length) 0 (q.2.map eU).length)]) (fun q=>[(3,1+q.2.length,⟨218,1,q.2.map eU,0⟩)]) (fun q=>q.1) (n,[]) ⟨O,aj⟩ ak ?_;rintro⟨m,L⟩ s ⟨hL,hb⟩;simp only at hL hb;dsimp only;refine D ?_ ?_<;>intro h
 .have hm:0<m:=cP h;clear h;have hLl:L.length<4:=by
   rcases aT L.length 4 with h|h
   .exact h
   .exfalso;have h1:65536^4<=65536^L.length:=fb Y h;have h2:=dr (show 1<=m by omega) h1;have:1*65536^4=18446744073709551616:=Y;omega
  have hL2:aq n=(L++[UInt16.ofNat m])++aq (m/65536):=by rw[hL,et J];simp
  have hb2:m/65536*65536^(L++[UInt16.ofNat m]).length<=n:=by
   rw[bT,tq,cn,b0 (65536^_),<-bS];exact bz (cm _ (o5 _ _)) hb
  refine H ?_;rw[wrap_u16];refine bX O O (gW O O O O O O O O O O ak O) ?_;refine aC (cQ 0 O O O O O O O O O O O ak jM O O aX aX ?_);refine H ?_;refine⟨(m/65536,L++[UInt16.ofNat m]),⟨hL2,hb2⟩,by simp only;omega,?_,?_,?_,bP⟩
  .show PV.int .u64 ((m:Int)/2^(16:Int).toNat)=PV.int .u64 ((m/65536:Nat):Int);rw[show((2:Int)^(16:Int).toNat)=65536 by decide];congr 1
  .exact oN eU 3 1 L (UInt16.ofNat m)
  .exact mu eU 1 218 1 0 L (UInt16.ofNat m)
 .have hm:m=0:=cG h;subst hm;clear h;rw[bN,cu]at hL;rw[hL];refine H ?_;exact jL O O O ⟨O,O,O⟩ O
theorem Ag {R:List UInt16}{j m:Nat}(h:nv ((R.drop j).drop m)=0):uw R j m=nv (R.drop j):=by
 rcases Nat.le_total m (R.drop j).length with hm|hm
 .rw[uw,dx (R.drop j) m hm,h];omega
 .rw[uw,dp hm]
theorem ub {l:List UInt16}{m:Nat}(h:nv l<65536^m):nv (l.drop m)=0:=by
 rcases Nat.le_total m l.length with hm|hm
 .rw[dx l m hm]at h;rcases dP (nv (l.drop m)) with h0|h0
  .exact h0
  .have:=cW (65536^m) h0;omega
 .rw[tl hm];rfl
theorem EI {R R':List UInt16}{j:Nat}(hl:R'.length=R.length)(h:∀t,t<j->ul R' t=ul R t):R'.take j=R.take j:=by
 apply fP;intro k;rw[bE,bE];split
 .rcases aT k R.length with hk|hk
  .rw[nu J,nu hk];congr 1;exact q_ (h k ‹_›)
  .rw[dF hk,dF J]
 .rfl
theorem Cx {R R':List UInt16}{j:Nat}(hl:R'.length=R.length)(h:∀t,j<=t->ul R' t=ul R t):R'.drop j=R.drop j:=by
 apply fP;intro k;rw[cq,cq];rcases aT (j+k) R.length with hk|hk
 .rw[nu J,nu hk];congr 1;exact q_ (h (j+k) J)
 .rw[dF hk,dF J]
structure DivI (V:List UInt16) (N n A0:Nat) (z:Nat × List UInt16 × List UInt16):Prop where
 k:z.1<=N-n
 r:z.2.1.length=N
 q:z.2.2.length=N-n
 v:nv z.2.1+nv V*(65536^z.1*nv (z.2.2.drop z.1))=A0
 lt:nv (z.2.1.drop z.1)<nv V
theorem yP {V:List UInt16}{N n A0 j:Nat}{R Q:List UInt16}(hV:V.length=n)(hn:n<N)(h:DivI V N n A0 (j+1,R,Q)):uw R j (n+1)=nv (R.drop j)/\uw R j (n+1)<65536*nv V/\j+(n+1)<=R.length:=by
 have h1:=h.k;have h2:=h.r;have h5:=h.lt;simp only at h1 h2 h5;have hlt:nv (R.drop (j+1))<65536^n:=Nat.lt_trans h5 (by rw[<-hV];exact cX V);have hz:=ub hlt;have e1:uw R j (n+1)=nv (R.drop j):=Ag (by rw[kF,show j+(n+1)=(j+1)+n by omega,<-kF];exact hz);have e2:=fH (nu (R:=R) (i:=j) J);have:=bm (R.getD j 0);exact⟨e1,by rw[e1,e2];omega,J⟩
theorem Cw {V:List UInt16}{N n A0 j:Nat}{R Q R':List UInt16}(hV:V.length=n)(hn:n<N)(hV0:0<nv V)(h:DivI V N n A0 (j+1,R,Q))(hd:Digd R V j n R') :
  uw R j (n+1)/nv V<65536/\DivI V N n A0 (j,R',Q.set j (UInt16.ofNat (uw R j (n+1)/nv V))):=by
 obtain⟨w1,w2,w3⟩:=yP hV hn h;have h1:=h.k;have h2:=h.r;have h3:=h.q;have h4:=h.v;have h5:=h.lt;simp only at h1 h2 h3 h4 h5;have hql:uw R j (n+1)/nv V<65536:=lU (by rw[b0];exact w2);have hRl:=hd.l;have htk:R'.take j=R.take j:=EI hRl fun t ht=>hd.o t (.inl ht);have hlt:nv (R.drop (j+1))<65536^n:=Nat.lt_trans h5 (by rw[<-hV];exact cX V);have hz:=ub hlt;have hdr:R'.drop (j+(n+1))=R.drop (j+(n+1)):=Cx hRl fun t ht=>hd.o t (.inr ht);have e1:uw R' j (n+1)=nv (R'.drop j):=Ag (by rw[kF,hdr,show j+(n+1)=(j+1)+n by omega,<-kF];exact hz);have e2:nv (R'.drop j)=nv (R.drop j)%nv V:=by rw[<-e1,hd.v,w1]
 refine⟨hql,by simp only;omega,by simp only;omega,by simp[h3],?_,?_⟩
 .simp only;have s1:=dx R' j J;have s2:=dx R j J;rw[htk,e2]at s1;rw[w1]at hql ⊢;rw[drop_set_self' J,nv,bh,cM hql,s1,<-h4,s2];have e3:=jb (nv (R.drop j)) (nv V);have e4:nv V*(65536^j*(nv (R.drop j)/nv V+65536*nv (Q.drop (j+1))))=65536^j*(nv V*(nv (R.drop j)/nv V))+nv V*(65536^(j+1)*nv (Q.drop (j+1))):=by
   rw[bB,bB,cn];congr 1
   .simp only[i9]
   .simp only[bS]
  rw[e4];have e5:65536^j*(nv (R.drop j)%nv V)+65536^j*(nv V*(nv (R.drop j)/nv V))=65536^j*nv (R.drop j):=by rw[<-bB];congr 1;omega
  omega
 .simp only;rw[e2];exact d0 _ hV0
where
 drop_set_self' {l:List UInt16} {i:Nat} {y:UInt16} (h:i<l.length):(l.set i y).drop i=y::l.drop (i+1):=by
  have h1:(l.set i y)[i]?=some y:=dl h;have h2:=tg (l:=l.set i y) (i:=i);rw[h1]at h2;rw[h2];show y::(l.set i y).drop (i+1)=_;congr 1;apply fP;intro j;rw[cq,cq,cV J]
theorem Fq {V:List UInt16}{N n a b s:Nat}{R Q:List UInt16}(hV:nv V=b*2^s)(hb:0<b)(h:DivI V N n (a*2^s) (0,R,Q)):nv Q=a/b/\nv R=a%b*2^s:=by
 have h4:=h.v;have h5:=h.lt;simp only[fS,Nat.pow_zero,dH]at h4 h5;have hp:0<2^s:=fE Y;rw[hV]at h4 h5;have e1:nv Q=a*2^s/(b*2^s):=by
  rw[<-h4,o4 _ _ (po hb hp),mN h5];omega
 have e2:nv R=a*2^s%(b*2^s):=by
  rw[<-h4,ti,cM h5]
 rw[Nat.mul_div_mul_right _ _ hp]at e1;rw[Nat.mul_mod_mul_right]at e2;exact⟨e1,e2⟩
theorem AB {V a b R Q:List UInt16}{s:Nat}(hVl:V.length=b.length)(hV:nv V=nv b*2^s)(hbl:b.length<=a.length)(hs:s<=15)(htop:32768*65536^(b.length-1)<=nv V)(hb:1<=b.length)(hRl:R.length=a.length+1)(hR:nv R=nv a*2^s)(hQl:Q.length=a.length+1-b.length)(hQ:nv Q=0\/True) :
  DivI V (a.length+1) b.length (nv a*2^s) (a.length+1-b.length,R,Q):=by
 refine⟨aH,hRl,hQl,?_,?_⟩
 .simp only;rw[tl J,nv,mR,mR,hR];omega
 .simp only;refine eH ?_ htop;have h1:=dx R (a.length+1-b.length) J;have h2:=cX a;have hp:0<65536^(a.length+1-b.length):=l7 _;have hs2:2^s<=32768:=fb (n:=2) Y hs;have h3:nv a*2^s<65536^a.length*32768:=by
   have:=cW (nv a) hs2;have:=(kx (show 0<32768 by decide)).2 h2;omega
  have h4:65536^a.length=65536^(a.length+1-b.length)*65536^(b.length-1):=by rw[<-fF];congr 1;omega
  rw[h4,bS]at h3;rw[hR]at h1;rw[h1]at h3;have h5:65536^(a.length+1-b.length)*nv (R.drop (a.length+1-b.length))<65536^(a.length+1-b.length)*(65536^(b.length-1)*32768):=J;have:=zg h5;rw[b0];exact this
theorem Ee {R:List UInt16}{i s:Nat}(hs:s<=15)(hi:i+1<R.length):(ul R i+65536*ul R (i+1))/2^s%65536=nv R/2^s/65536^i%65536:=by
 have e1:nv R/65536^i=nv (R.drop i):=by
  rw[dx R i J,o4 _ _ (l7 _),mN (fW R i)];omega
 rw[Nat.div_div_eq_div_mul (nv R),b0 (2^s),<-Nat.div_div_eq_div_mul,e1,fH (nu J),fH (nu (i:=i+1) J)];show(ul R i+65536*ul R (i+1))/2^s%65536=(ul R i+65536*(ul R (i+1)+65536*nv (R.drop (i+1+1))))/2^s%65536;generalize nv (R.drop (i+1+1))=H0;have hd:2^s*2^(16-s)=65536:=by rw[<-fF,show s+(16-s)=16 by omega]
 have e2:ul R i+65536*(ul R (i+1)+65536*H0)=(ul R i+65536*ul R (i+1))+2^s*(65536*(2^(16-s)*H0)):=by
  have:2^s*(65536*(2^(16-s)*H0))=65536*(65536*H0):=by
   rw[i9,<-bS (2^s),hd]
  rw[this];omega
 rw[e2,o4 _ _ (fE Y),ti]
structure RemI (R:List UInt16) (n s:Nat) (k:Nat × List UInt16):Prop where
 i:k.1<=n
 l:k.2.length=n
 v:nv (k.2.take k.1)=nv R/2^s%65536^k.1
theorem DL {R Q:List UInt16}{n s i:Nat}(h:RemI R n s (i,Q))(hs:s<=15)(hR:n+1<=R.length)(hi:i<n):RemI R n s (i+1,Q.set i (UInt16.ofNat ((ul R i+65536*ul R (i+1))/2^s))):=by
 obtain⟨h1,h2,h3⟩:=h;simp only at h1 h2 h3;refine⟨hi,by simp[h2],?_⟩;simp only;rw[d9 (i:=i) (dl J),take_set',h3,bh,Ee hs J,Nat.mod_pow_succ]
where
 take_set' {l:List UInt16} {i:Nat} {y:UInt16}:nv ((l.set i y).take i)=nv (l.take i):=by
  congr 1;apply fP;intro j;rw[bE,bE];split
  .rw[cV J]
  .rfl
theorem Ik {x y:Nat}(hx:x<65536)(hy:y<65536):bits .or .u32 (x:Int) ((y*65536:Nat):Int)=((x+65536*y:Nat):Int):=by
 rw[bits_join_low .u32 32 Y wraps_u32 16 _ _ J J J J J J];omega
def Ft (a b:List UInt16):PV := .tup [.sl ((aq (nv a/nv b)).map eU),.sl ((aq (nv a%nv b)).map eU)]
theorem AC (a b:List UInt16)(ha:a.length<=100000000)(hb:b.length<=100000000)(hta:Trm a)(htb:Trm b)(hlt:nv a<nv b):bb 215 [.sl (a.map eU),.sl (b.map eU)] (Ft a b):=by
 have hc:=h_ a b J J;have hneg:=(iJ hta htb).1.2 hlt;rw[Ft,mN hlt,cM hlt,bN,gP hta];generalize kX a b=c at *
 refine ay Proofs.Tryz.func215 ?_;refine aB hc ?_;refine D ?_ ?_<;>intro h
 .clear h;refine H ?_;refine JZ O O O (pX a J) O O ?_
  (repeat ((fail_if_success (with_reducible refine fY ?_));refine Ab O ?_))
  refine ax (Ghost.nilsl (t:=4) O) ?_;refine H ?_;exact xG O O O O O trivial trivial O
 .have:=cJ h;omega
theorem xE (a:List UInt16)(b:UInt16)(ha:a.length<=100000000)(hta:Trm a)(htb:Trm [b])(hge:nv [b]<=nv a):bb 215 [.sl (a.map eU),.sl [eU b]] (Ft a [b]):=by
 have hc:=h_ a [b] J aj;have hneg:¬kX a [b]<0:=fun h=>by have:=(iJ hta htb).1.1 h;omega
 have hb0:0<b.toNat:=by have:=htb b O;omega
 have hs:=Bu a b ha hb0;have hnb:nv [b]=b.toNat:=by simp[nv]
 rw[Ft,hnb];have hml:=d0 (nv a) hb0;have hbl:=bm b;have hx:=cZ [UInt16.ofNat (nv a%b.toNat)] aj;have hxv:a_ [UInt16.ofNat (nv a%b.toNat)]=aq (nv a%b.toNat):=by
  rw[a_];congr 1;simp[nv];omega
 rw[hxv]at hx;have hxe:([UInt16.ofNat (nv a%b.toNat)].map eU)=[[PV.int .u16 ((nv a%b.toNat:Nat):Int)]]:=by
  show [[PV.int .u16 _]]=_;rw[bh,cM J]
 rw[hxe]at hx;generalize kX a [b]=c,nv a%b.toNat=m at *
 refine ay Proofs.Tryz.func215 ?_;refine aB hc ?_;refine D ?_ ?_<;>intro h
 .have:=bK h;omega
 clear h;refine H ?_;refine bX O O (DG O O O O O Y O O) ?_;refine G hs ?_;refine H ?_;refine bX O O (gW O O O O O O O O O O ak O) ?_;refine G hx ?_;refine H ?_;exact xG O O O O O trivial trivial O
set_option maxRecDepth 40000 in
set_option maxHeartbeats 4000000 in
theorem vi (a b:List UInt16){n:Nat}(ha:a.length<=100000000)(hb:b.length=n+2)(hta:Trm a)(htb:Trm b)(hge:nv b<=nv a):bb 215 [.sl (a.map eU),.sl (b.map eU)] (Ft a b):=by
 have hba:b.length<=a.length:=by
  rcases aT a.length b.length with h|h
  .exfalso;have h1:=yC htb (k:=n+1) hb;have h2:=cX a;have h3:65536^a.length<=65536^(n+1):=dJ J;omega
  .exact h
 have hc:=h_ a b J J;have hneg:¬kX a b<0:=fun h=>by have:=(iJ hta htb).1.1 h;omega
 have hbml:(b.map eU).length=n+2:=by rw[aM,hb]
 have hbt:=nu (R:=b) (i:=n+1) J;have ht0:ul b (n+1)≠0:=htb _ (by rw[oT,hb,show n+2-1=n+1 by omega];exact hbt);have hlead:=Dc (b.getD (n+1) 0) ht0;have hl16:=vU ht0 (bm _);rw[show(b.getD (n+1) 0).toNat=ul b (n+1) from O]at hlead;have hb0:0<nv b:=by
  have h1:=yC htb (k:=n+1) hb;have:=l7 (n+1);omega
 have hbtl:=eg b (n+1);have hbtop:nv b=uw b 0 (n+1)+65536^(n+1)*ul b (n+1):=by
  have h1:=ez (R:=b) (j:=0) (m:=n+1) J;rw[rc hb (aH),aG]at h1;exact h1
 generalize hlt:lk (ul b (n+1))=t at *
 obtain⟨s,hs⟩:∃s,s=16-t:=⟨_,O⟩;rw[<-hs]at hlead;have hs15:s<=15:=J;have hgs:32768<=ul b (n+1)*2^s/\ul b (n+1)*2^s<65536:=by
  have e1:2^t*2^s=65536:=by rw[<-fF,show t+s=16 by omega]
  have h1:=cm (2^s) hl16.2.2.1;have h2:=(kx (fE (show 0<2 by decide):0<2^s)).2 hl16.2.2.2;rw[e1]at h1 h2;rw[bS]at h1;omega
 have hsO:=uA a s ha J;have hsF:=wT b s J J;obtain⟨V,hVd⟩:∃V,V=(jR (b.length+1) (nv b*2^s)).take (n+2):=⟨_,O⟩;have hp:0<2^s:=fE Y;have hblt:nv b*2^s<65536^(n+2):=by
  have h1:=sH b 0 (n+1);have h2:nv b<65536^(n+1)*(ul b (n+1)+1):=by rw[hbtop,bB];omega
  have h3:=(kx hp).2 h2;have h4:(ul b (n+1)+1)*2^s<=65536:=by
   have e1:2^t*2^s=65536:=by rw[<-fF,show t+s=16 by omega]
   rw[<-e1];exact cm _ hl16.2.2.2
  have h5:=cW (65536^(n+1)) h4;rw[<-bS]at h5;rw[cn];omega
 have hVl:V.length=n+2:=by rw[hVd,bI,jS,hb];omega
 have hVv:nv V=nv b*2^s:=by
  have h1:=dx (jR (b.length+1) (nv b*2^s)) (n+2) (by rw[jS];omega);have h2:nv (jR (b.length+1) (nv b*2^s))=nv b*2^s:=sY _ _ (eH hblt (dJ J));have h3:nv ((jR (b.length+1) (nv b*2^s)).drop (n+2))=0:=ub (by rw[h2];exact hblt);rw[h2,h3,<-hVd]at h1;omega
 have hVtop:32768<=ul V (n+1):=by
  have h1:=ez (R:=V) (j:=0) (m:=n+1) J;rw[rc hVl (aH),aG]at h1;have h2:=sH V 0 (n+1);have h3:65536^(n+1)*32768<=nv V:=by
   rw[hVv,hbtop,be,bS];have:=cW (65536^(n+1)) hgs.1;omega
  rcases aT (ul V (n+1)) 32768 with h|h
  .exfalso;have:=cW (65536^(n+1)) (show ul V (n+1)+1<=32768 by omega);rw[bB]at this;omega
  .exact h
 have hV32:32768*65536^(b.length-1)<=nv V:=by
  rw[hVv,hbtop,hb,show n+2-1=n+1 by omega,be,bS];have:=cW (65536^(n+1)) hgs.1;rw[b0 (65536^(n+1)) 32768]at this;omega
 have hV0:0<nv V:=by rw[hVv];exact po hb0 hp
 have hRl:=jS (a.length+1) (nv a*2^s);have hRv:nv (jR (a.length+1) (nv a*2^s))=nv a*2^s:=sY _ _ (by
  have h1:=(kx hp).2 (cX a);have h2:2^s<=2^16:=fb (n:=2) Y (show s<=16 by omega);rw[show 2^16=65536 by decide]at h2;have:=cW (65536^a.length) h2
  rw[cn];omega)
 have hstart:=fun Q hQ=>AB (V:=V) (a:=a) (b:=b) (Q:=Q) (hVl.trans hb.symm) hVv hba hs15 hV32 J hRl hRv hQ (.inr trivial);generalize jR (a.length+1) (nv a*2^s)=R0 at *
 rw[Ft];generalize kX a b=c at *
 have c1:IntKind.i64.wrap (((n+2:Nat):Int)-1)=((n+1:Nat):Int):=by rw[wrap_i64 J J];omega
 have c2:IntKind.i64.wrap (((R0.map eU).length:Nat)-((n+2:Nat):Int))=((a.length+1-(n+2):Nat):Int):=by rw[aM,hRl,wrap_i64 J J];omega
 have c3:IntKind.i64.wrap (((a.length+1-(n+2):Nat):Int)-1)=((a.length+1-(n+2):Nat):Int)-1:=by rw[wrap_i64 J J]
 have hbi:(b.map eU)[((n+1:Nat):Int).toNat]?=some [PV.int .u16 ((ul b (n+1):Nat):Int)]:=p6 J;refine ay Proofs.Tryz.func215 ?_;refine aB hc ?_;refine D ?_ ?_<;>intro h
 .have:=bK h;omega
 clear h;refine H ?_;rw[hbml];refine H ?_;rw[hbml,c1];refine bX O O (DG O O O O O J hbi O) ?_;refine aB hlead ?_;refine H ?_;refine cY [44] [2] aN ?_;refine H ?_;refine pK O O O (FK O hsO O ak O ⟨nR O,?_⟩);refine I6 hsF ?_;refine H ?_;rw[hbml];refine bX O O (I5 0 (n+2) O O O O (.inl ⟨O,O⟩) (.inr ⟨_,_,O,O⟩) J (by rw[jS];omega) (fun _=>rfl)) ?_;rw[fS,<-hVd];have hVml:(V.map eU).length=n+2:=by rw[aM,hVl]
 refine H ?_;rw[hVml];refine H ?_;rw[c2];refine aC (jy O O O O O O O O J (by show(2:Int)*_<=_;omega) J ?_);rw[aS,l9];refine H ?_;rw[c2];refine H ?_;rw[c3];rw[hb]at hstart hba;have hst0:=hstart (List.replicate (a.length+1-(n+2)) 0) aj;clear hstart;refine ao (DivI V (a.length+1) (n+2) (nv a*2^s)) (fun z=>[(4,.als 57 1 0 (z.2.2.map eU).length),(8,I s),(9,.als 44 1 0 (z.2.1.map eU).length),(10,.fsl (V.map eU)),(11,I ((n+2:Nat):Int)),(12,I ((z.1:Int)-1))])
  (fun z=>GV 1 1 z.2.1 z.2.2) (fun z=>z.1) (a.length+1-(n+2),R0,List.replicate (a.length+1-(n+2)) 0) hst0 ak ?_
 rintro⟨k,R,Q⟩ s1 hI;have hk:=hI.k;have hRl2:=hI.r;have hQl:=hI.q;simp only at hk hRl2 hQl;dsimp only;refine D ?_ ?_<;>intro h
 .have hk0:0<k:=cP h;clear h;obtain⟨j,rfl⟩:∃j,k=j+1:=⟨k-1,J⟩;have e1:(((j+1:Nat):Int)-1)=(j:Nat):=J;rw[e1];obtain⟨w1,w2,w3⟩:=yP hVl J hI;have hRml:(R.map eU).length=a.length+1:=by rw[aM,hRl2]
  have e2:IntKind.i64.wrap (IntKind.i64.wrap ((j:Int)+((n+2:Nat):Int))+1)=((j+(n+3):Nat):Int):=by
   rw[wrap_i64 (n:=(j:Int)+((n+2:Nat):Int)) J J,wrap_i64 J J];omega
  obtain⟨r,hr⟩:=nH (R:=Q) (i:=j) J
  (refine dN 13 ?_;refine aD 10 ?_)
  refine H ?_;rw[e2];refine bX O O (I4 j (j+(n+3)) O O O O O O (.inr ⟨_,_,O,O⟩) (.inr ⟨_,_,O,O⟩) J (by rw[hRml];omega)) ?_;rw[aG j,show j+(n+3)-j=n+3 by omega];refine H ?_;refine aU O (Cv (n:=n) (j:=j) (R:=R) (V:=V) (Qr:=Q) hVl J J hVtop w2 O O ⟨O,O,bP⟩ fun s3 R' hd=>?_);obtain⟨hq16,hnx⟩:=Cw hVl J hV0 hI hd;refine aE ?_;refine H ?_;refine bX O O (co O O O O O O O J (by rw[aM];omega)) ?_;rw[aS,aG j];rw[show PV.int .u16 ((uw R j (n+3)/nv V:Nat):Int)=PV.int .u16 ((UInt16.ofNat (uw R j (n+3)/nv V)).toNat:Int) by rw[bh,cM hq16]];refine c9 (bW (kd':=0) O O O hr O O ak O O O O ?_);refine H ?_;refine⟨(j,R',Q.set j (UInt16.ofNat (uw R j (n+3)/nv V))),hnx,by simp only;omega,?_,O,?_,O,O,?_,O,?_,bP⟩
  .show PV.als 57 1 0 (Q.map eU).length=_;simp
  .show PV.als 44 1 0 (R.map eU).length=_;rw[aM,aM,hd.l]
  .exact congrArg I (wrap_i64 J J)
  .exact eQ 1 218 1 0 j Q (UInt16.ofNat (uw R j (n+3)/nv V))
 .have hk0:k=0:=cG h;subst hk0;clear h;obtain⟨hQv,hRv2⟩:=Fq hVv hb0 hI;refine H ?_;refine aC (jy O O O O O O O O J (by show(2:Int)*_<=_;omega) J ?_);generalize (s1.own 80).1=g8;rw[aS,l9];refine H ?_;refine ao (RemI R (n+2) s) (fun q=>[(4,.als 57 1 0 (Q.map eU).length),(5,.als 80 (g8+1) 0 (q.2.map eU).length),(8,I s),(9,.als 44 1 0 (R.map eU).length),(81,I ((n+2:Nat):Int)),(82,I q.1)])
   (fun q=>[(44,1,⟨218,1,R.map eU,0⟩),(57,1,⟨218,1,Q.map eU,0⟩),(80,g8+1,⟨218,1,q.2.map eU,0⟩)]) (fun q=>n+2-q.1) (0,List.replicate (n+2) 0) ⟨aF _,aj,by simp[nv];omega⟩ ak ?_
  rintro⟨i,P⟩ s3 hJ;have hi:=hJ.i;have hPl:=hJ.l;simp only at hi hPl;dsimp only;refine D ?_ ?_<;>intro h
  .have hi2:i<n+2:=cP h;clear h;have hst:=DL hJ hs15 J hi2;have h1:=mz (R:=R) (i:=i) J;have h2:=mz (R:=R) (i:=i+1) J;have b1:=eg R i;have b2:=eg R (i+1);have hsh:=Hk (x:=ul R (i+1)) b2;have hor:=Ik b1 b2;obtain⟨r,hr⟩:=nH (R:=P) (i:=i) J;have ei:IntKind.i64.wrap ((i:Int)+1)=((i+1:Nat):Int):=by rw[wrap_i64 J J];omega
   refine dg 19 [85,86,87,88,89,90,91,92,93,94,95,96,97,98,99,100,101,102,103] ?_;refine H ?_;refine bX O O (co O O O O O O O J (by rw[aM];omega)) ?_;rw[aS,aG i];refine bX O O (c_ O O O h1 O) ?_;refine H ?_;rw[pI R i];refine H ?_;rw[ei];refine bX O O (co O O O O O O O J (by rw[aM];omega)) ?_;rw[aS,aG (i+1)];refine bX O O (c_ O O O h2 O) ?_;refine H ?_;rw[pI R (i+1)];refine H ?_;rw[hsh];refine H ?_;rw[hor];refine H ?_;refine bX O O (QOp.v O (show(0:Int)<=(s:Int)/\(s:Int)<=(IntKind.u32.bits:Nat) by constructor;omega;show(s:Int)<=32;omega)) ?_;rw[show((ul R i+65536*ul R (i+1):Nat):Int)/2^((s:Nat):Int).toNat=(((ul R i+65536*ul R (i+1))/2^s:Nat):Int) by rw[aS,Int.natCast_ediv,Int.natCast_pow];rfl];refine H ?_;rw[wrap_u16];refine bX O O (co O O O O O O O J (by rw[aM];omega)) ?_;rw[aS,aG i];refine H ?_;refine c9 (bW (kd':=0) O O O hr O O ak O O O O ?_);refine H ?_;refine⟨(i+1,_),hst,by simp only;omega,O,?_,O,O,O,cU J J,O,O,?_,bP⟩
   .show PV.als 80 (g8+1) 0 (P.map eU).length=_;simp
   .exact eQ (g8+1) 218 1 0 i P (UInt16.ofNat ((ul R i+65536*ul R (i+1))/2^s))
  .have hi2:i=n+2:=cG h;subst hi2;clear h;have hPv:nv P=nv a%nv b:=by
    have h1:=hJ.v;simp only at h1;rw[dp J,hRv2,Nat.mul_div_cancel _ hp]at h1;rw[h1];refine cM (Nat.lt_trans (d0 _ hb0) ?_);rw[<-hb];exact cX b
   have ht1:=cZ Q J;rw[a_,hQv]at ht1;have ht2:=cZ P J;rw[a_,hPv]at ht2
   (refine dN 20 ?_;refine aD 1 ?_)
   refine H ?_;refine aU O (eM (Ghost.takeF (enc:=eU) (t:=105) (Q) O O (O) O (fun _=>rfl)) ?_)
   (refine l5 (eL O (ht1) O ?_ O) ?_;.repeat' constructor)
   refine aU O (eM (Ghost.refl _) (I1 O trivial ?_));refine aU O (eM (Ghost.takeF (enc:=eU) (t:=107) (P) O O (O) O (fun _=>rfl)) ?_)
   (refine l5 (eL O (ht2) O ?_ O) ?_;.repeat' constructor)
   refine aE ?_;refine H ?_;exact xG O O O O O trivial trivial O
theorem lH (a b:List UInt16)(ha:a.length<=100000000)(hb:b.length<=100000000)(hta:Trm a)(htb:Trm b)(hb0:nv b≠0):bb 215 [.sl (a.map eU),.sl (b.map eU)] (Ft a b):=by
 rcases aT (nv a) (nv b) with h|h
 .exact AC a b ha hb hta htb h
 .match b,hb,htb,hb0,h with
  |[],_,_,hb0,_=>exact absurd rfl hb0
  |[x],_,htb,_,h=>exact xE a x ha hta htb h
  |x::y::l,hb,htb,_,h=>exact vi a (x::y::l) (n:=l.length) ha rfl hta htb h
theorem A5:aq 1=[1]:=by rw[et Y,show 1/65536=0 by decide,bN];rfl
theorem ga {n m:Nat}(h:n<=m):(aq n).length<=(aq m).length:=by
 refine cS ?_;have:=cX (aq m);rw[aO]at this;omega
theorem ff (l:List UInt16):(aq (nv l)).length<=l.length:=cS (cX l)
theorem xz (a b:List UInt16)(ha:a.length<=100000000)(hb:b.length<=100000000)(hta:Trm a)(htb:Trm b):bb 214 [.sl (a.map eU),.sl (b.map eU)] (.sl ((aq (Nat.gcd (nv a) (nv b))).map eU)):=by
 generalize hg:Nat.gcd (nv a) (nv b)=g;refine ay Proofs.Tryz.func214 ?_;refine H ?_;refine ao (fun q:List UInt16 × List UInt16=>q.1.length<=100000000/\q.2.length<=100000000/\Trm q.1/\Trm q.2/\Nat.gcd (nv q.1) (nv q.2)=g) (fun q=>[(0,.sl (q.1.map eU)),(1,.sl (q.2.map eU))]) (fun _=>[]) (fun q=>nv q.2) (a,b) ⟨ha,hb,hta,htb,hg⟩ ak ?_;rintro⟨A,B⟩ s ⟨hA,hB,htA,htB,hG⟩;simp only at hA hB htA htB hG;dsimp only;have hBm:(B.map eU).length=B.length:=aj;refine D ?_ ?_<;>intro h
 .have hB0:0<B.length:=cP h;clear h;have hB0v:nv B≠0:=by
   match B,hB0,htB with
   |x::l,_,h=>exact pF h
  have hw1:=xk A J;have hw2:=xk B J;have main:(A.length<=4/\B.length<=4)\/¬(A.length<=4/\B.length<=4):=cx _;have hd:=lH A B hA hB htA htB hB0v;rw[Ft]at hd;have hml:=d0 (nv A) (jp hB0v);have hnext:(aq (nv A%nv B)).length<=100000000:=by
   have h1:=ga (je hml);have h2:=ff B;omega
  have hG2:Nat.gcd (nv B) (nv (aq (nv A%nv B)))=g:=by rw[aO,jf,<-Nat.gcd_rec,jf];exact hG
  by_cases h1:A.length<=4
  .rw[if_pos h1]at hw1;have hAl:nv A<18446744073709551616:=by
    have:=cX A;have h3:65536^A.length<=65536^4:=dJ h1;have:(65536:Nat)^4=18446744073709551616:=Y;omega
   by_cases h2:B.length<=4
   .rw[if_pos h2]at hw2;have hBl:nv B<18446744073709551616:=by
     have:=cX B;have h3:65536^B.length<=65536^4:=dJ h2;have:(65536:Nat)^4=18446744073709551616:=Y;omega
    clear main hd;generalize nv A=av,nv B=bv at *
    refine aB hw1 ?_;refine aB hw2 ?_;refine H ?_;refine ao (fun q:Nat × Nat=>q.1<18446744073709551616/\q.2<18446744073709551616/\Nat.gcd q.1 q.2=g) (fun q=>[(5,.int .u64 (q.1:Nat)),(7,.int .u64 (q.2:Nat))]) (fun _=>[]) (fun q=>q.2) (av,bv) ⟨hAl,hBl,hG⟩ ak ?_;rintro⟨x,y⟩ s2 ⟨hx,hy,hg2⟩;simp only at hx hy hg2;dsimp only;refine D ?_ ?_<;>intro h
    .have hy0:0<y:=cP h;clear h;have hm:=d0 x hy0;refine H ?_;refine cY [] [] aN ?_;refine H ?_;refine bX O O (QOp.v O (show ¬((y:Nat):Int)=0 by omega)) ?_;rw[qZ];refine H ?_;exact⟨(y,x%y),⟨hy,by simp only;omega,by simp only;rw[jf,<-Nat.gcd_rec,jf];exact hg2⟩,hm,ak⟩
    .have hy0:y=0:=cG h;subst hy0;clear h;rw[tC]at hg2;subst hg2;refine G (oA x hx) ?_;refine H ?_;exact jL O O O trivial O
   .rw[if_neg h2]at hw2;refine aB hw1 ?_;refine aB hw2 ?_;refine G hd ?_;refine H ?_;exact⟨(B,aq (nv A%nv B)),⟨hB,hnext,htB,cf _,hG2⟩,by simp only;rw[aO];exact hml,ak⟩
  .rw[if_neg h1]at hw1;by_cases h2:B.length<=4
   .rw[if_pos h2]at hw2;refine aB hw1 ?_;refine aB hw2 ?_;refine G hd ?_;refine H ?_;exact⟨(B,aq (nv A%nv B)),⟨hB,hnext,htB,cf _,hG2⟩,by simp only;rw[aO];exact hml,ak⟩
   .rw[if_neg h2]at hw2;refine aB hw1 ?_;refine aB hw2 ?_;refine G hd ?_;refine H ?_;exact⟨(B,aq (nv A%nv B)),⟨hB,hnext,htB,cf _,hG2⟩,by simp only;rw[aO];exact hml,ak⟩
 .have hB0:B.length=0:=cG h;clear h;have hB0v:=nP.1 hB0;subst hB0v;rw[nv,tC]at hG;rw[<-hG,gP htA];refine H ?_;exact jL O O O trivial O
theorem we (a b:RI)(hb:nv b.l≠0):ofQ ((a.val:Rat)/(b.val:Rat))=⟨dQ (iU (a.neg != b.neg) (nv a.l/Nat.gcd (nv a.l) (nv b.l))),dQ (iU false (nv b.l/Nat.gcd (nv a.l) (nv b.l)))⟩:=by
 have hbv:b.val≠0:=by intro h;have:=b.val_abs;rw[h]at this;exact hb this.symm
 rw[FR _ _ hbv,a.val_abs,b.val_abs,pt,pt];have hg:0<Nat.gcd (nv a.l) (nv b.l):=tk _ (jp hb);have hbg:nv b.l/Nat.gcd (nv a.l) (nv b.l)≠0:=by
  have:=Nat.div_pos (Nat.le_of_dvd (jp hb) (Nat.gcd_dvd_right (nv a.l) (nv b.l))) hg;omega
 rw[if_neg hbg];congr 1;by_cases ha:nv a.l=0
 .rw[ha,Nat.zero_div,if_pos O,bN];congr 1;have hav:a.val=0:=by rw[RI.val,ha];simp
  rw[hav];simp
 .have hag:nv a.l/Nat.gcd (nv a.l) (nv b.l)≠0:=by
   have:=Nat.div_pos (Nat.le_of_dvd (jp ha) (Nat.gcd_dvd_left (nv a.l) (nv b.l))) hg;omega
  rw[if_neg hag];congr 1;have e1:a.val<0↔a.neg=true:=by rw[RI.val];split<;>simp_all<;>omega
  have e2:0<a.val↔a.neg=false:=by rw[RI.val];split<;>simp_all<;>omega
  have e3:b.val<0↔b.neg=true:=by rw[RI.val];split<;>simp_all<;>omega
  have e4:0<b.val↔b.neg=false:=by rw[RI.val];split<;>simp_all<;>omega
  simp only[e1,e2,e3,e4];cases a.neg<;>cases b.neg<;>rfl
theorem eo (a b:RI)(ha:a.l.length<=90000000)(hb:b.l.length<=90000000)(hb0:nv b.l≠0):bb 148 [.agg (eI a),.agg (eI b)] (.agg (eR (ofQ ((a.val:Rat)/(b.val:Rat))))):=by
 rw[we a b hb0];obtain⟨an,al⟩:=a;obtain⟨bn,bl⟩:=b;simp only at ha hb hb0;dsimp only;have hta:=cZ al J;have htb:=cZ bl J;have hla:=ff al;have hlb:=ff bl;have hc:=xz (aq (nv al)) (aq (nv bl)) J J (cf _) (cf _);rw[aO,aO]at hc;have hg0:0<Nat.gcd (nv al) (nv bl):=tk _ (jp hb0);have hgl:Nat.gcd (nv al) (nv bl)<=nv bl:=Nat.gcd_le_right _ (jp hb0);generalize Nat.gcd (nv al) (nv bl)=g at *
 rw[a_]at hta htb;have hgs:(aq g).length<=90000000:=by have:=ga hgl;omega
 have hda:=lH (aq (nv al)) (aq g) J J (cf _) (cf _) (by rw[aO];omega);have hdb:=lH (aq (nv bl)) (aq g) J J (cf _) (cf _) (by rw[aO];omega);rw[Ft,aO,aO]at hda hdb;have hsa:=fg (an != bn) (aq (nv al/g)) (by have:=ga (gD (nv al) g);omega);have hsb:=fg false (aq (nv bl/g)) (by have:=ga (gD (nv bl) g);omega);rw[aO]at hsa hsb;have hm:((aq g).map eU).length=(aq g).length:=aj;by_cases hg1:g=1
 .subst hg1;rw[Nat.div_one]at hsa hsb;rw[Nat.div_one,Nat.div_one];rw[A5]at hc;generalize aq (nv al)=A,aq (nv bl)=B,dQ (iU (an != bn) (nv al))=X,dQ (iU false (nv bl))=Y0 at *
  refine ay Proofs.Tryz.func148 ?_;refine dg 8 [8,9,10,11,12,13,5,6] ?_;refine G hta ?_;refine G htb ?_;refine G hc ?_;refine H ?_;refine bX O O (ka O O O O O J (show([1]:List UInt16)[0]?=some 1 from O) O) ?_;refine G hsa ?_;refine G hsb ?_;exact cy
 .have hne:aq g≠[1]:=by
   intro h;have:=aO g;rw[h]at this;exact hg1 (by rw[<-this];rfl)
  generalize aq (nv al)=A,aq (nv bl)=B,dQ (iU (an != bn) (nv al/g))=X,dQ (iU false (nv bl/g))=Y0,aq g=G0,aq (nv al/g)=A2,aq (nv bl/g)=B2 at *
  refine ay Proofs.Tryz.func148 ?_;refine dg 8 [8,9,10,11,12,13,5,6] ?_;refine G hta ?_;refine G htb ?_;refine G hc ?_;refine H ?_;by_cases hl:G0.length=1
  .obtain⟨x,rfl⟩:=to.1 hl;have hx:x.toNat≠1:=fun h=>hne (by have h2:x=1:=q_ h;rw[h2]);refine H ?_;refine bX O O (ka O O O O O J (show [x][0]?=some x from O) O) ?_;refine D ?_ ?_<;>intro h
   .clear h;refine G hda ?_;refine G hdb ?_;refine G hsa ?_;refine G hsb ?_;exact cy
   .exfalso;simp at h;omega
  .refine J1 O O O ?_ ?_<;>intro h
   .refine G hda ?_;refine G hdb ?_;refine G hsa ?_;refine G hsb ?_;exact cy
   .exfalso;simp at h;omega
def nB (z:Int):Int:=if z=0 then 0 else if z<0 then -1 else 1
theorem RI.val_zero (a:RI):a.val=0↔nv a.l=0:=by rw[RI.val];split<;>omega
theorem oa {l:List UInt16}:(a_ l).length=0↔nv l=0:=by
 constructor
 .intro h;have h1:=gh l;rw[nP.1 h]at h1;exact h1.symm
 .intro h;rw[a_,h,bN];rfl
theorem nj (a:RI)(ha:a.l.length<=300000000):bb 212 [.agg (eI a)] (I (nB a.val)):=by
 have ht:=cZ a.l J;have hm:((a_ a.l).map eU).length=(a_ a.l).length:=aj;have h0:=oa (l:=a.l);have hz:=a.val_zero;have hv:a.val=if a.neg then -(nv a.l:Int) else(nv a.l:Int):=O
 generalize a_ a.l=T at *
 obtain⟨an,al⟩:=a;simp only at *
 refine ay Proofs.Tryz.func212 ?_;refine G ht ?_;refine D ?_ ?_<;>intro h
 .have h1:nv al=0:=h0.1 (by have:=bK h;omega);rw[nB,if_pos (hz.2 h1)];exact dL
 .have h1:nv al≠0:=by
   intro h1;have h2:=cJ h;have:=h0.2 h1;omega
  rw[nB,if_neg (fun h=>h1 (hz.1 h))];clear h;cases an
  .rw[if_neg (by rw[hv];simp only[cF,if_false];omega)];exact dL
  .rw[if_pos (by rw[hv];simp only[if_true];omega)];exact dL
def dn (x:RR):RI:=if nv x.d.l=0 then⟨false,[1]⟩ else x.d
theorem HI (x:RR):(dn x).val=x.d.den:=by
 rw[dn,RI.den];split
 .rfl
 .rfl
theorem yS (x:RR):nv (dn x).l≠0:=by
 rw[dn];split
 .decide
 .assumption
theorem HH {x:RR}{n:Nat}(h:x.d.l.length<=n)(hn:1<=n):(dn x).l.length<=n:=by
 rw[dn];split
 .exact hn
 .exact h
theorem RR.val_dn (x:RR):x.val=(x.n.val:Rat)/((dn x).val:Rat):=by rw[HI];rfl
theorem ek (x:RR)(hx:x.d.l.length<=300000000):bb 147 [.agg (eR x)] (.agg (eI (dn x))):=by
 have hs:=nj x.d hx;rw[dn];by_cases h0:nv x.d.l=0
 .rw[if_pos h0];rw[nB,if_pos (x.d.val_zero.2 h0)]at hs;refine ay Proofs.Tryz.func147 ?_;refine aB hs ?_;refine H ?_;refine aC (b8 0 O O O O O O O O O O O ak O ?_);exact cy
 .rw[if_neg h0];have h1:nB x.d.val≠0:=by rw[nB,if_neg (fun h=>h0 (x.d.val_zero.1 h))];split<;>decide
  generalize nB x.d.val=v at *
  refine ay Proofs.Tryz.func147 ?_;refine aB hs ?_;refine D ?_ ?_<;>intro h
  .exact absurd (bK h) h1
  .exact cy
theorem lO (x:RR)(hx:x.n.l.length<=300000000):bb 145 [.agg (eR x)] (.bool (decide (x.val=0))):=by
 have hs:=nj x.n hx;have e:decide (x.val=0)=decide (nB x.n.val=0):=by
  have h1:=x.n.val_zero;by_cases h:nv x.n.l=0
  .rw[decide_eq_true (x.zero_iff.2 h),nB,if_pos (h1.2 h)];rfl
  .rw[decide_eq_false (fun h2=>h (x.zero_iff.1 h2)),nB,if_neg (fun h2=>h (h1.1 h2))];split<;>rfl
 rw[e];refine ay Proofs.Tryz.func145 ?_;refine aB hs ?_;exact rq
theorem Gj (a b:Int)(hb:b≠0):nB a*nB b=if a=0 then 0 else if (a<0/\0<b)\/(0<a/\b<0) then -1 else 1:=by
 unfold nB;rw[if_neg hb];by_cases h0:a=0
 .rw[if_pos h0,if_pos h0];omega
 .rw[if_neg h0,if_neg h0];split<;>split<;>split<;>omega
theorem z7 (x:RR):sgn x.val=nB x.n.val*nB (dn x).val:=by
 have hd:(dn x).val≠0:=by rw[Ne,RI.val_zero];exact yS x
 rw[Gj _ _ hd,RR.val_dn];generalize x.n.val=a;generalize (dn x).val=b at *
 have h:=(un a b hd).2.2;rw[sgn];have hq:(a:Rat)/(b:Rat)=0↔a=0:=by
  have hb:(b:Rat)≠0:=by exact_mod_cast hd
  constructor
  .intro h;have:(a:Rat)=0:=aW
   exact_mod_cast this
  .intro h;subst h;grind
 have hlt:(a:Rat)/(b:Rat)<0↔(a<0/\0<b)\/(0<a/\b<0):=by
  rw[<-h];have h1:=Rat.num_nonneg (q:=(a:Rat)/(b:Rat));grind
 by_cases h0:a=0
 .rw[if_pos h0,if_neg (by rw[hlt];omega),if_pos (hq.2 h0)]
 .rw[if_neg h0];by_cases h1:(a<0/\0<b)\/(0<a/\b<0)
  .rw[if_pos h1,if_pos (hlt.2 h1)]
  .rw[if_neg h1,if_neg (fun h=>h1 (hlt.1 h)),if_neg (fun h=>h0 (hq.1 h))]
theorem wi (z:Int):(dQ z).l=aq z.natAbs:=rfl
theorem RI.lt (a:RI):a.val.natAbs<65536^a.l.length:=by rw[RI.val_abs];exact cX _
theorem gc (a b:RI):(dQ (a.val*b.val)).l.length<=a.l.length+b.l.length:=by
 rw[wi,f8];exact cS (gS a.lt b.lt)
theorem Ds (a b:RI){n:Nat}(ha:a.l.length<=n)(hb:b.l.length<=n):(dQ (a.val+b.val)).l.length<=n+1:=by
 rw[wi];refine cS ?_;have h1:=a.lt;have h2:=b.lt;have h3:=dJ ha;have h4:=dJ hb;rw[cn];omega
theorem B_ {A B:List UInt16}{n:Nat}(hA:A.length<=n)(hB:B.length<=n):(aq (nv A+nv B)).length<=n+1:=by
 refine cS ?_;have h1:=cX A;have h2:=cX B;have h3:=dJ hA;have h4:=dJ hB;rw[cn];omega
theorem gR (a b:RI)(ha:a.l.length<=90000000)(hb:b.l.length<=90000000):bb 150 [.agg (eI a),.agg (eI b)] (.agg (eI (dQ (a.val*b.val)))):=by
 have e:a.val*b.val=iU (a.neg != b.neg) (nv a.l*nv b.l):=by
  rw[a.val_sgz,b.val_sgz];cases a.neg<;>cases b.neg<;>simp[iU,Int.neg_mul,Int.mul_neg]
 have hl:=gc a b;rw[e]at hl ⊢;have hta:=cZ a.l J;have htb:=cZ b.l J;have hla:=dy a.l;have hlb:=dy b.l;have ht:=BJ (a_ a.l) (a_ b.l) J J;rw[gh,gh]at ht;have hs:=fg (a.neg != b.neg) (aq (nv a.l*nv b.l)) (by
  have:=cS (gS (cX a.l) (cX b.l));omega)
 rw[aO]at hs;obtain⟨an,al⟩:=a;obtain⟨bn,bl⟩:=b;simp only at *
 generalize a_ al=A,a_ bl=B,aq (nv al*nv bl)=C,dQ (iU (an != bn) (nv al*nv bl))=X at *
 refine ay Proofs.Tryz.func150 ?_;refine dg 13 [5,6,7,8,9,10,11,12,13,14,15,16,17] ?_;refine G hta ?_;refine G htb ?_;refine G ht ?_;refine G hs ?_;exact cy
theorem B8 (a b:RI)(ha:a.l.length<=90000000)(hb:b.l.length<=90000000):bb 149 [.agg (eI a),.agg (eI b)] (.agg (eI (dQ (a.val+b.val)))):=by
 have hta:=cZ a.l J;have htb:=cZ b.l J;have hla:=dy a.l;have hlb:=dy b.l;have hA:=kU a.l;have hB:=kU b.l;have hnA:=gh a.l;have hnB:=gh b.l;rw[a.val_sgz,b.val_sgz];obtain⟨an,al⟩:=a;obtain⟨bn,bl⟩:=b;simp only at *
 rw[<-hnA,<-hnB];generalize a_ al=A,a_ bl=B at *
 have hp:=DB A B J J;have hcm:=h_ A B J J;have hcs:=(iJ hA hB).1;have hlA:=ff A;have hlB:=ff B;have hlp:(aq (nv A+nv B)).length<=300000000:=by
  have:=B_ (n:=100000000) (A:=A) (B:=B) J J;omega
 by_cases hs:an=bn
 .subst hs;have hd:=fg an (aq (nv A+nv B)) hlp;rw[aO]at hd;have e:iU an (nv A)+iU an (nv B)=iU an (nv A+nv B):=by cases an<;>simp only[iU,cF,if_false,if_true]<;>omega
  rw[e];generalize aq (nv A+nv B)=C,dQ (iU an (nv A+nv B))=X at *
  refine ay Proofs.Tryz.func149 ?_;refine dg 8 [7,8,9,10,11,12,5,6] ?_;refine G hta ?_;refine G htb ?_;refine D ?_ ?_<;>intro h
  .clear h;refine dg 6 [18,19,20,21,22,23] ?_;refine G hp ?_;refine G hd ?_;exact cy
  .exfalso;simp at h
 .have hmA:nv B<=nv A->bb 218 [.sl (A.map eU),.sl (B.map eU)] (.sl ((aq (nv A-nv B)).map eU)):=r7 A B J J;have hmB:nv A<=nv B->bb 218 [.sl (B.map eU),.sl (A.map eU)] (.sl ((aq (nv B-nv A)).map eU)):=r7 B A J J;have hlm:(aq (nv A-nv B)).length<=300000000:=by have:=ga (Nat.sub_le (nv A) (nv B));omega
  have hlm2:(aq (nv B-nv A)).length<=300000000:=by have:=ga (Nat.sub_le (nv B) (nv A));omega
  have hdA:=fg an (aq (nv A-nv B)) hlm;have hdB:=fg bn (aq (nv B-nv A)) hlm2;rw[aO]at hdA hdB;have eA:nv B<=nv A->iU an (nv A)+iU bn (nv B)=iU an (nv A-nv B):=by intro h;cases an<;>cases bn<;>simp_all only [iU,cF,if_false,if_true,not_true_eq_false,reduceCtorEq,not_false_eq_true]<;>omega
  have eB:nv A<=nv B->iU an (nv A)+iU bn (nv B)=iU bn (nv B-nv A):=by intro h;cases an<;>cases bn<;>simp_all only [iU,cF,if_false,if_true,not_true_eq_false,reduceCtorEq,not_false_eq_true]<;>omega
  generalize iU an (nv A)+iU bn (nv B)=Z,aq (nv A-nv B)=C,aq (nv B-nv A)=D0 at *
  generalize hX:dQ (iU an (nv A-nv B))=X at *
  generalize hY:dQ (iU bn (nv B-nv A))=Y0 at *
  refine ay Proofs.Tryz.func149 ?_;refine dg 8 [7,8,9,10,11,12,5,6] ?_;refine G hta ?_;refine G htb ?_;refine D ?_ ?_<;>intro h
  .exfalso;simp at h;exact hs h
  .clear h;refine aB hcm ?_;refine D ?_ ?_<;>intro h
   .have hge:nv B<=nv A:=by
     have h1:=bK h;omega
    clear h;refine dg 6 [28,29,30,31,32,33] ?_;refine G (hmA hge) ?_;refine G hdA ?_;refine H ?_;exact CB O ak O ak (by rw[eA hge,hX];rfl)
   .have hge:nv A<=nv B:=by
     have h1:=cJ h;omega
    clear h;refine dg 6 [34,35,36,37,38,39] ?_;refine G (hmB hge) ?_;refine G hdB ?_;refine H ?_;exact CB O ak O ak (by rw[eB hge,hY];rfl)
theorem gA {x:RR}{n:Nat}(h:x.d.l.length<=n):(dn x).l.length<=n+1:=HH J J
theorem lI (x:RR):(dn x).val≠0:=by rw[Ne,RI.val_zero];exact yS x
theorem xZ {z:Int}(h:z≠0):nv (dQ z).l≠0:=by rw[wi,aO];omega
theorem ug (a:RI):bb 292 [.agg (eI a)] (.agg (eI ⟨!a.neg,a.l⟩)):=by
 obtain⟨an,al⟩:=a;refine ay Proofs.Tryz.func292 ?_;exact cy
theorem qw (x:RR)(hn:x.n.l.length<=80000000)(hd:x.d.l.length<=80000000):bb 146 [.agg (eR x)] (.agg (eR (ofQ x.val))):=by
 have hb:=ek x J;have hf:=eo x.n (dn x) J (by have:=gA hd;omega) (yS x);rw[<-RR.val_dn]at hf;generalize dn x=D0,ofQ x.val=X at *
 refine ay Proofs.Tryz.func146 ?_;refine dg 5 [3,4,5,6,7] ?_;refine G hb ?_;refine G hf ?_;exact cy
theorem ua (x:RR)(hn:x.n.l.length<=80000000)(hd:x.d.l.length<=80000000):bb 240 [.agg (eR x)] (.agg (eR (ofQ (-x.val)))):=by
 have hb:=ek x J;have ho:=ug x.n;have hf:=eo ⟨!x.n.neg,x.n.l⟩ (dn x) (by simp only;omega) (by have:=gA hd;omega) (yS x);have e:(RI.mk (!x.n.neg) x.n.l).val = -x.n.val:=by unfold RI.val;cases x.n.neg<;>simp
 rw[e,<-Gc,<-RR.val_dn]at hf;generalize dn x=D0,ofQ (-x.val)=X,RI.mk (!x.n.neg) x.n.l=N at *
 refine ay Proofs.Tryz.func240 ?_;refine dg 6 [3,4,5,6,7,8] ?_;refine G ho ?_;refine G hb ?_;refine G hf ?_;exact cy
theorem uP (x y:RR)(hxn:x.n.l.length<=20000000)(hxd:x.d.l.length<=20000000)(hyn:y.n.l.length<=20000000)(hyd:y.d.l.length<=20000000):bb 74 [.agg (eR x),.agg (eR y)] (.agg (eR (ofQ (x.val+y.val)))):=by
 have hzx:=lO x J;have hzy:=lO y J;have hlx:=qw x J J;have hly:=qw y J J;have hbx:=ek x J;have hby:=ek y J;have hdx:=gA hxd;have hdy:=gA hyd;have l1:=gc x.n (dn y);have l2:=gc y.n (dn x);have l3:=gc (dn x) (dn y);have m1:=gR x.n (dn y) J J;have m2:=gR y.n (dn x) J J;have m3:=gR (dn x) (dn y) J J;have l4:=Ds (dQ (x.n.val*(dn y).val)) (dQ (y.n.val*(dn x).val)) (n:=45000000) J J;have m4:=B8 (dQ (x.n.val*(dn y).val)) (dQ (y.n.val*(dn x).val)) J J;rw[dV,dV]at m4 l4;have m5:=eo (dQ (x.n.val*(dn y).val+y.n.val*(dn x).val)) (dQ ((dn x).val*(dn y).val)) J J (xZ (kD (lI x) (lI y)));rw[dV,dV,<-zQ _ _ _ _ (lI x) (lI y),<-RR.val_dn,<-RR.val_dn]at m5;have e0:x.val=0->ofQ (x.val+y.val)=ofQ y.val:=fun h=>by rw[h,Rat.zero_add]
 have e1:y.val=0->ofQ (x.val+y.val)=ofQ x.val:=fun h=>by rw[h,pn]
 generalize dQ (x.n.val*(dn y).val+y.n.val*(dn x).val)=W5,dQ (x.n.val*(dn y).val)=W1,dQ (y.n.val*(dn x).val)=W2,dQ ((dn x).val*(dn y).val)=W3 at *
 generalize dn x=A,dn y=B,ofQ (x.val+y.val)=X,ofQ x.val=X1,ofQ y.val=X2 at *
 generalize x.val=xv,y.val=yv at *
 refine ay Proofs.Tryz.func74 ?_;refine aB hzx ?_;refine D ?_ ?_<;>intro h
 .have e:=e0 (bK h);subst e;clear h;refine G hly ?_;exact cy
 clear h;refine aB hzy ?_;refine D ?_ ?_<;>intro h
 .have e:=e1 (bK h);subst e;clear h;refine G hlx ?_;exact cy
 clear h;refine H ?_;refine cp [(4,5),(5,6),(6,5),(7,6)] aN aN ?_;refine G hbx ?_;refine G hby ?_;refine dg 13 [19,20,21,22,23,24,25,26,27,28,29,30,31] ?_;refine G m1 ?_;refine G m2 ?_;refine G m4 ?_;refine G m3 ?_;refine G m5 ?_;exact cy
theorem nK {q:Rat}{n:Nat}(h:hq q n):(ofQ q).n.l.length<=n/\(ofQ q).d.l.length<=n:=(lj h).ok
theorem dh (x y:RR){p q:Rat}{n m:Nat}[hx:Vq x p n][hy:Vq y q m](hn:n<=20000000)(hm:m<=20000000):bb 74 [.agg (eR x),.agg (eR y)] (.agg (eR (ofQ (p+q)))):=by
 have h1:=hx.sz;have h2:=hy.sz;have:=uP x y J J J J;rwa [hx.val,hy.val]at this
theorem Dr {x:RR}{n:Nat}(h1:x.n.l.length<=n)(h2:x.d.l.length<=n):(ofQ (-x.val)).n.l.length<=n+1/\(ofQ (-x.val)).d.l.length<=n+1 :=
 nK (qi (SZ.hq (x:=x) ⟨h1,h2⟩))
theorem Ew (x y:RR)(hxn:x.n.l.length<=10000000)(hxd:x.d.l.length<=10000000)(hyn:y.n.l.length<=10000000)(hyd:y.d.l.length<=10000000):bb 178 [.agg (eR x),.agg (eR y)] (.agg (eR (ofQ (x.val-y.val)))):=by
 have hneg:=ua y J J;have hl:=Dr hyn hyd;have ha:=uP x (ofQ (-y.val)) J J J J;rw[ofQ_val,<-kz]at ha;generalize ofQ (-y.val)=Y0,ofQ (x.val-y.val)=X at *
 refine ay Proofs.Tryz.func178 ?_;refine dg 4 [5,6,7,8] ?_;refine G hneg ?_;refine G ha ?_;exact cy
theorem mc (x y:RR){p q:Rat}{n m:Nat}[hx:Vq x p n][hy:Vq y q m](hn:n<=10000000)(hm:m<=10000000):bb 178 [.agg (eR x),.agg (eR y)] (.agg (eR (ofQ (p-q)))):=by
 have h1:=hx.sz;have h2:=hy.sz;have:=Ew x y J J J J;rwa [hx.val,hy.val]at this
theorem Dj (x y:RR)(hxn:x.n.l.length<=20000000)(hxd:x.d.l.length<=20000000)(hyn:y.n.l.length<=20000000)(hyd:y.d.l.length<=20000000):bb 78 [.agg (eR x),.agg (eR y)] (.agg (eR (ofQ (x.val*y.val)))):=by
 have hbx:=ek x J;have hby:=ek y J;have hdx:=gA hxd;have hdy:=gA hyd;have l1:=gc x.n y.n;have l3:=gc (dn x) (dn y);have m1:=gR x.n y.n J J;have m3:=gR (dn x) (dn y) J J;have m5:=eo (dQ (x.n.val*y.n.val)) (dQ ((dn x).val*(dn y).val)) J J (xZ (kD (lI x) (lI y)));rw[dV,dV,<-zT,<-RR.val_dn,<-RR.val_dn]at m5;generalize dQ (x.n.val*y.n.val)=W1,dQ ((dn x).val*(dn y).val)=W3 at *
 generalize dn x=A,dn y=B,ofQ (x.val*y.val)=X at *
 refine ay Proofs.Tryz.func78 ?_;refine dg 11 [5,6,7,8,9,10,11,12,13,14,15] ?_;refine G m1 ?_;refine G hbx ?_;refine G hby ?_;refine G m3 ?_;refine G m5 ?_;exact cy
theorem gu (x y:RR){p q:Rat}{n m:Nat}[hx:Vq x p n][hy:Vq y q m](hn:n<=20000000)(hm:m<=20000000):bb 78 [.agg (eR x),.agg (eR y)] (.agg (eR (ofQ (p*q)))):=by
 have h1:=hx.sz;have h2:=hy.sz;have:=Dj x y J J J J;rwa [hx.val,hy.val]at this
theorem Bg (x y:RR)(hxn:x.n.l.length<=20000000)(hxd:x.d.l.length<=20000000)(hyn:y.n.l.length<=20000000)(hyd:y.d.l.length<=20000000)(h0:y.val≠0):bb 291 [.agg (eR x),.agg (eR y)] (.agg (eR (ofQ (x.val/y.val)))):=by
 have hbx:=ek x J;have hby:=ek y J;have hdx:=gA hxd;have hdy:=gA hyd;have hy0:y.n.val≠0:=by rw[Ne,RI.val_zero,<-RR.zero_iff];exact h0
 have l1:=gc x.n (dn y);have l3:=gc (dn x) y.n;have m1:=gR x.n (dn y) J J;have m3:=gR (dn x) y.n J J;have m5:=eo (dQ (x.n.val*(dn y).val)) (dQ ((dn x).val*y.n.val)) J J (xZ (kD (lI x) hy0));rw[dV,dV,<-zR,<-RR.val_dn,<-RR.val_dn]at m5;generalize dQ (x.n.val*(dn y).val)=W1,dQ ((dn x).val*y.n.val)=W3 at *
 generalize dn x=A,dn y=B,ofQ (x.val/y.val)=X at *
 refine ay Proofs.Tryz.func291 ?_;refine dg 11 [5,6,7,8,9,10,11,12,13,14,15] ?_;refine G hby ?_;refine G m1 ?_;refine G hbx ?_;refine G m3 ?_;refine G m5 ?_;exact cy
theorem I2 (x y:RR){p q:Rat}{n m:Nat}[hx:Vq x p n][hy:Vq y q m](hn:n<=20000000)(hm:m<=20000000)(h0:q≠0):bb 291 [.agg (eR x),.agg (eR y)] (.agg (eR (ofQ (p/q)))):=by
 have h1:=hx.sz;have h2:=hy.sz;have:=Bg x y J J J J (by rw[hy.val];exact h0);rwa [hx.val,hy.val]at this
theorem qR (x:RR)(hn:x.n.l.length<=20000000)(hd:x.d.l.length<=20000000):bb 211 [.agg (eR x)] (I (sgn x.val)):=by
 have hb:=ek x J;have h1:=nj x.n J;have h2:=nj (dn x) (by have:=gA hd;omega);rw[z7];have hw:IntKind.i64.wrap (nB x.n.val*nB (dn x).val)=nB x.n.val*nB (dn x).val:=by
  refine wrap_i64 ?_ ?_<;>(unfold nB;split<;>split<;>(try split)<;>(try split)<;>omega)
 generalize nB x.n.val=s1,nB (dn x).val=s2 at *
 generalize dn x=D0 at *
 refine ay Proofs.Tryz.func211 ?_;refine dg 8 [3,4,5,6,7,8,9,2] ?_;refine aB h1 ?_;refine G hb ?_;refine aB h2 ?_;refine H ?_;rw[hw];exact rR O O O
theorem Hl (x:RR){p:Rat}{n:Nat}[hx:Vq x p n](hn:n<=20000000):bb 211 [.agg (eR x)] (I (sgn p)):=by
 have h1:=hx.sz;have:=qR x J J;rwa [hx.val]at this
theorem y4 (x:RR){p:Rat}{n:Nat}[hx:Vq x p n](hn:n<=20000000):bb 145 [.agg (eR x)] (.bool (decide (p=0))):=by
 have h1:=hx.sz;have:=lO x J;rwa [hx.val]at this
theorem mt (x y:RR){p q:Rat}{n m:Nat}[hx:Vq x p n][hy:Vq y q m](hn:n<=8000000)(hm:m<=8000000):bb 144 [.agg (eR x),.agg (eR y)] (I (sgn (p-q))):=by
 have h1:=hx.sz;have h2:=hy.sz;have hs:=mc x y J J;have hh:hq (p-q) (n+1+(m+1)+1):=(HQ.sub (h1:=hx.hq) (h2:=hy.hq)).ok;have hl:=nK hh;have hg:=qR (ofQ (p-q)) J J;rw[ofQ_val]at hg;generalize ofQ (p-q)=X,sgn (p-q)=g at *
 refine ay Proofs.Tryz.func144 ?_;refine G hs ?_;refine aB hg ?_;exact dL
theorem wH (x y:RR){p q:Rat}{n m:Nat}[hx:Vq x p n][hy:Vq y q m](hn:n<=20000000)(hm:m<=20000000):bb 239 [.agg (eR x),.agg (eR y)] (if q=0 then .tup [.agg (eR RR.zero),I 9] else .tup [.agg (eR (ofQ (p/q))),I 0]):=by
 have hz:=y4 y hm;by_cases h0:q=0
 .rw[if_pos h0];rw[decide_eq_true h0]at hz;refine ay Proofs.Tryz.func239 ?_;refine aB hz ?_
  ((repeat ((fail_if_success (with_reducible refine fY ?_));refine Ab O ?_));refine ax (Ghost.nilcell (k:=1007) (k0:=4) (i:=0) (j:=1) 218 1 0 O O O O (row:=[.bool false,.nil,.bool false,.nil]) O O O) ?_;refine ax (Ghost.nilcell (k:=1021) (k0:=4) (i:=0) (j:=3) 218 1 0 O O O O (row:=[.bool false,_,.bool false,.nil]) O O O) ?_)
  exact cy
 .rw[if_neg h0];rw[decide_eq_false h0]at hz;have ho:=I2 x y hn hm h0;generalize ofQ (p/q)=X at *
  refine ay Proofs.Tryz.func239 ?_;refine aB hz ?_;refine G ho ?_;exact cy
theorem mV {z:Int}(h:z.natAbs<18446744073709551616):(dQ z).l.length<=4:=by
 rw[wi];refine cS ?_;have:(65536:Nat)^4=18446744073709551616:=Y;omega
theorem oG (z:Int):IntKind.u64.wrap z=z%18446744073709551616:=by
 have e:(2:Int)^64=18446744073709551616:=Y;simp only[IntKind.wrap,IntKind.bits,IntKind.signed,kG,cF,if_false,e]
theorem xo {z:Int}(h0 : -9223372036854775808<=z)(h1:z<0):IntKind.u64.wrap (0-(IntKind.u64.wrap z))=((z.natAbs:Nat):Int):=by
 rw[oG,oG];omega
theorem x5 (z:Int)(h0 : -9223372036854775808<=z)(h1:z<=9223372036854775807):bb 131 [I z] (.agg (eI (dQ z))):=by
 have hn:=oA z.natAbs J;have hl:=mV (z:=z) J;rw[wi]at hl;have hs:=fg (decide (z<0)) (aq z.natAbs) J;rw[aO]at hs;have e:iU (decide (z<0)) z.natAbs=z:=by
  by_cases h:z<0
  .rw[decide_eq_true h,iU,if_pos O];omega
  .rw[decide_eq_false h,iU,if_neg Y];omega
 rw[e]at hs;generalize dQ z=X at *
 by_cases hz:z<0
 .have hw:=xo h0 hz;rw[decide_eq_true hz]at hs;generalize aq z.natAbs=A at *
  refine ay Proofs.Tryz.func131 ?_;refine D ?_ ?_<;>intro h
  .clear h;refine H ?_;rw[hw];refine yd O O O hn O O ?_;refine G hs ?_;exact cy
  .exact absurd hz (cJ h)
 .have hw:IntKind.u64.wrap z=((z.natAbs:Nat):Int):=by
   rw[wrap_u64 J J];omega
  rw[decide_eq_false hz]at hs;generalize aq z.natAbs=A at *
  refine ay Proofs.Tryz.func131 ?_;refine D ?_ ?_<;>intro h
  .exact absurd (bK h) hz
  .clear h;refine H ?_;rw[hw];refine yd O O O hn O O ?_;refine G hs ?_;exact cy
theorem ol (a:RI)(ha:a.l.length<=90000000):bb 130 [.agg (eI a)] (.agg (eR (ofQ (a.val:Rat)))):=by
 have hf:=eo a ⟨false,[1]⟩ ha Y Y;rw[show(RI.mk false [1]).val=1 by rfl]at hf;rw[show((a.val:Rat)/((1:Int):Rat))=(a.val:Rat) by grind]at hf;generalize ofQ (a.val:Rat)=X at *
 refine ay Proofs.Tryz.func130 ?_;refine H ?_;refine bX O O (gW O O O O O O O O O O ak O) ?_;refine G hf ?_;exact cy
theorem fV (z:Int)(h0 : -9223372036854775808<=z)(h1:z<=9223372036854775807):bb 306 [I z] (.agg (eR (ofQ (z:Rat)))):=by
 have ho:=x5 z h0 h1;have hw:=ol (dQ z) (by have:=mV (z:=z) J;omega);rw[dV]at hw;generalize ofQ (z:Rat)=X,dQ z=Z at *
 refine ay Proofs.Tryz.func306 ?_;refine G ho ?_;refine G hw ?_;exact cy
def gy (l:List UInt16)(i:Nat):Nat:=(l.getD i 0).toNat
theorem gL (l:List UInt16)(i:Nat):gy l i<65536:=bm _
theorem Cr {l:List UInt16}{i:Nat}(h:l.length<=i):gy l i=0:=by
 rw[gy,cH,dF h];rfl
theorem zD (l:List UInt16)(i:Nat):nv (l.take (i+1))=nv (l.take i)+65536^i*gy l i:=by
 rcases aT i l.length with h|h
 .exact d9 (cK h)
 .rw[Cr h,dp h,dp J];omega
structure RPlus (A B:List UInt16) (q:Nat × List UInt16 × Nat):Prop where
 l:q.2.1.length=q.1
 c:q.2.2<=1
 k:q.1<=A.length+B.length+1
 v:nv q.2.1+65536^q.1*q.2.2=nv (A.take q.1)+nv (B.take q.1)
structure RMin (A B:List UInt16) (q:Nat × List UInt16 × Nat):Prop where
 l:q.2.1.length=q.1
 c:q.2.2<=1
 k:q.1<=A.length
 v:nv q.2.1+nv (B.take q.1)=nv (A.take q.1)+65536^q.1*q.2.2
def B0 (x y c:Nat):Nat:=if x<y+c then x+65536-y-c else x-y-c
def Gg (x y c:Nat):Nat:=if x<y+c then 1 else 0
theorem Hj {x y c:Nat}(hx:x<65536)(hy:y<65536)(hc:c<=1):B0 x y c+y+c=x+65536*Gg x y c/\B0 x y c<65536/\Gg x y c<=1:=by
 unfold B0 Gg;split<;>omega
theorem Bm {A B:List UInt16}{k:Nat}{L:List UInt16}{c:Nat}(h:RMin A B (k,L,c))(hk:k<A.length) :
  RMin A B (k+1,L++[UInt16.ofNat (B0 (gy A k) (gy B k) c)],Gg (gy A k) (gy B k) c):=by
 obtain⟨h1,h2,h3,h4⟩:=h;simp only at h1 h2 h3 h4;obtain⟨e,e2,e3⟩:=Hj (gL A k) (gL B k) h2;refine⟨by simp[h1],e3,hk,?_⟩;simp only;rw[uc,zD A,zD B,h1,bh,cM e2,cn];generalize B0 (gy A k) (gy B k) c=m,Gg (gy A k) (gy B k) c=d,65536^k=W at *
 have:W*(m+gy B k+c)=W*(gy A k+65536*d):=by rw[e]
 simp only[bB]at this;rw[bS];omega
theorem DP {A B L:List UInt16}{c:Nat}(h:RMin A B (A.length,L,c))(hle:nv B<=nv A):nv L=nv A-nv B:=by
 obtain⟨h1,h2,h3,h4⟩:=h;simp only at h1 h2 h3 h4;rw[bM]at h4;have e1:=cX L;rw[h1]at e1;have e2:=xY B A.length;have e3:nv (B.take A.length)=nv B/\c=0:=by
  have e4:65536^A.length≠0:=Nat.ne_of_gt (l7 _);have hc:c=0:=by
   rcases dP c with g|g
   .exact g
   .have:c=1:=J;subst this;have:=fW B A.length;omega
  refine⟨?_,hc⟩;subst hc;rcases aT A.length B.length with g|g
  .have e5:=dx B A.length J;have e6:=cX A;rcases dP (nv (B.drop A.length)) with g2|g2
   .rw[g2]at e5;omega
   .have:65536^A.length*1<=65536^A.length*nv (B.drop A.length):=cW _ g2;omega
  .rw[dp g]
 rw[e3.1,e3.2]at h4;omega
structure RTimO (A B:List UInt16) (q:Nat × List UInt16):Prop where
 i:q.1<=A.length
 l:q.2.length=A.length+B.length+1
 v:nv q.2=nv (A.take q.1)*nv B
structure RTimI (A B:List UInt16) (i:Nat) (q:Nat × List UInt16 × Nat):Prop where
 k:q.1<=B.length+1
 l:q.2.1.length=A.length+B.length+1
 c:q.2.2<65536
 v:nv q.2.1+65536^(i+q.1)*q.2.2=nv (A.take i)*nv B+65536^i*(gy A i*nv (B.take q.1))
theorem ym {A B:List UInt16}{i:Nat}{R:List UInt16}(h:RTimO A B (i,R)):RTimI A B i (0,R,0):=⟨aF _,h.l,tN _,by
 have:=h.v;simp only at this ⊢
 rw[ib,nv];omega⟩
theorem Ia {A B:List UInt16}{i k:Nat}{R:List UInt16}{c:Nat}(h:RTimI A B i (k,R,c))(hk:k<B.length\/0<c):k<=B.length:=by
 rcases hk with hk|hk
 .omega
 .obtain⟨h1,h2,h3,h4⟩:=h;simp only at h1 h2 h3 h4;rcases aT B.length k with g|g
  .exfalso;rw[dp (l:=B) J]at h4;have e1:=fW A i;have e2:=gL A i;have e3:=cX B;have e4:nv (A.take i)*nv B+65536^i*(gy A i*nv B)=(nv (A.take i)+65536^i*gy A i)*nv B:=by rw[be,bS]
   have e5:nv (A.take i)+65536^i*gy A i<65536^(i+1):=by
    have:65536^i*gy A i<=65536^i*65535:=cW _ J;rw[cn];omega
   have e6:(nv (A.take i)+65536^i*gy A i)*nv B<65536^(i+1+B.length):=gS e5 e3;have e7:65536^(i+1+B.length)<=65536^(i+k):=fb Y J;have e8:65536^(i+k)*1<=65536^(i+k)*c:=cW _ hk;omega
  .exact g
theorem Bs {A B:List UInt16}{i k:Nat}{R:List UInt16}{c:Nat}{r:UInt16}(h:RTimI A B i (k,R,c))(hkB:k<=B.length)(hr:R[i+k]?=some r) :
  RTimI A B i (k+1,R.set (i+k) (UInt16.ofNat (r.toNat+gy A i*gy B k+c)),(r.toNat+gy A i*gy B k+c)/65536):=by
 obtain⟨h1,h2,h3,h4⟩:=h;simp only at h1 h2 h3 h4;have hx:=gL A i;have hyl:=gL B k;have hrl:=bm r;have hm:=v_ hx hyl;refine⟨by simp only;omega,by simp[h2],by simp only;omega,?_⟩;simp only;have hs:=Dp hr (UInt16.ofNat (r.toNat+gy A i*gy B k+c));rw[bh]at hs;rw[zD B,show i+(k+1)=(i+k)+1 by omega,cn];have e:=gE (r.toNat+gy A i*gy B k+c) 65536;generalize (r.toNat+gy A i*gy B k+c)%65536=m,(r.toNat+gy A i*gy B k+c)/65536=d at *
 have e2:65536^i*(gy A i*(nv (B.take k)+65536^k*gy B k))=65536^i*(gy A i*nv (B.take k))+65536^(i+k)*(gy A i*gy B k):=by
  rw[bB,bB,fF];congr 1;simp only[bS,i9,b0]
 rw[e2];generalize 65536^(i+k)=W at *
 have e3:W*(m+65536*d)=W*(r.toNat+gy A i*gy B k+c):=by rw[e]
 simp only[bB]at e3;rw[bS];omega
theorem Br {A B:List UInt16}{i k:Nat}{R:List UInt16}{c:Nat}(h:RTimI A B i (k,R,c))(hi:i<A.length)(hk:¬(k<B.length\/0<c)):RTimO A B (i+1,R):=by
 obtain⟨h1,h2,h3,h4⟩:=h;simp only at h1 h2 h3 h4;rw[dp (l:=B) J,show c=0 by omega]at h4;refine⟨hi,h2,?_⟩;simp only;rw[zD A,be,bS];omega
structure ROvr (A B:List UInt16) (q:Nat × List UInt16 × Nat):Prop where
 i:q.1<=A.length
 l:q.2.1.length=A.length
 u:nv (q.2.1.drop q.1)=nv (A.drop q.1)/nv B
 r:q.2.2=nv (A.drop q.1)%nv B
theorem yj {A B:List UInt16}:ROvr A B (A.length,List.replicate A.length 0,0) :=
 ⟨aH,aj,by simp[nv],by simp[nv]⟩
theorem Bp {A B:List UInt16}{i:Nat}{Q:List UInt16}{r:Nat}{x:UInt16}(hb:0<nv B)(h:ROvr A B (i+1,Q,r))(hx:A[i]?=some x) :
  (x.toNat+65536*r)/nv B<65536/\ROvr A B (i,Q.set i (UInt16.ofNat ((x.toNat+65536*r)/nv B)),(x.toNat+65536*r)%nv B):=by
 obtain⟨h1,h2,h3,h4⟩:=h;simp only at h1 h2 h3 h4;have hxl:=bm x;have hrb:r<nv B:=by rw[h4];exact d0 _ hb
 have hq:(x.toNat+65536*r)/nv B<65536:=by
  refine lU ?_;have:65536*(r+1)<=65536*nv B:=cW _ hrb;rw[b0 (nv B)];omega
 refine⟨hq,by simp only;omega,by simp[h2],?_,?_⟩
 .simp only;have hget:(Q.set i (UInt16.ofNat ((x.toNat+65536*r)/nv B)))[i]?=some (UInt16.ofNat ((x.toNat+65536*r)/nv B)):=dl J;rw[fH hget,fH hx,bh,cM hq];have e2:(Q.set i (UInt16.ofNat ((x.toNat+65536*r)/nv B))).drop (i+1)=Q.drop (i+1):=by
   apply fP;intro j;rw[cq,cq,cV J]
  rw[e2,h3];generalize nv (A.drop (i+1))=D0 at *
  have e3:=gE D0 (nv B);rw[<-h4]at e3;have e4:x.toNat+65536*D0=(x.toNat+65536*r)+nv B*(65536*(D0/nv B)):=by
   have e5:nv B*(65536*(D0/nv B))=65536*(nv B*(D0/nv B)):=by rw[i9]
   rw[e5];omega
  rw[e4,o4 _ _ hb]
 .simp only;rw[fH hx];generalize nv (A.drop (i+1))=D0 at *
  have e3:=gE D0 (nv B);rw[<-h4]at e3;have e4:x.toNat+65536*D0=(x.toNat+65536*r)+nv B*(65536*(D0/nv B)):=by
   have e5:nv B*(65536*(D0/nv B))=65536*(nv B*(D0/nv B)):=by rw[i9]
   rw[e5];omega
  rw[e4,ti]
theorem DS {A B Q:List UInt16}{r:Nat}(h:ROvr A B (0,Q,r)):nv Q=nv A/nv B/\r=nv A%nv B:=by
 have h1:=h.u;have h2:=h.r;simp only[fS]at h1 h2;exact⟨h1,h2⟩
def eD (x:UInt16):List PV:=[I x.toNat]
theorem nF (a:List UInt16)(i:Nat)(ha:a.length<=1000000000)(hi:i<=4000000000):bb 209 [.sl (a.map eD),I i] (I (gy a i)):=by
 have hal:(a.map eD).length=a.length:=aj;by_cases hlt:i<a.length
 .have hx:=cK (l:=a) (i:=i) hlt;rw[gy];generalize a.getD i 0=x at *
  refine ay Proofs.Tryz.func209 ?_;refine D ?_ ?_<;>intro h
  .clear h;refine aZ hx ?_;exact dL
  .have:=cJ h;omega
 .rw[Cr J];refine ay Proofs.Tryz.func209 ?_;refine D ?_ ?_<;>intro h
  .have:=bK h;omega
  .exact dL
theorem iQ (l:List UInt16)(hl:l.length<=1000000000):bb 208 [.sl (l.map eD)] (.sl ((a_ l).map eD)):=by
 have hml:(l.map eD).length=l.length:=aj;refine ay Proofs.Tryz.func208 ?_;refine H ?_;refine ao (fun k=>k<=l.length/\nv (l.take k)=nv l) (fun k=>[(0,.sl (l.map eD)),(3,I (k:Nat))]) (fun _=>[]) (fun k=>k) l.length ⟨aH,by rw[bM]⟩ ⟨O,by rw[<-hml];rfl,bP⟩ ?_;rintro k s ⟨hk,hv⟩;have hkl:(l.take k).length=k:=by rw[bI];omega
 have fin:(∀j,k=j+1->∀x,l[j]?=some x->x.toNat≠0)->l.take k=a_ l:=by
  intro h0;rw[a_,<-hv];refine(gP fun y hy=>?_).symm;rw[oT,hkl]at hy;have hk0:0<k:=by
   rcases dP k with h|h
   .subst h;rw[ib]at hy;cases hy
   .exact h
  rw[bE,if_pos J]at hy;exact h0 (k-1) J y hy
 have ending:(l.take k).map eD=(l.map eD).take k:=by rw[jc]
 refine fZ ?_ ?_<;>intro h
 .have hk0:0<k:=cP h;clear h;obtain⟨j,rfl⟩:∃j,k=j+1:=⟨k-1,J⟩;obtain⟨x,hx⟩:=aK (show j<l.length by omega);have hw1:IntKind.i64.wrap (((j+1:Nat):Int)-1)=(j:Nat):=by rw[wrap_i64 J J];omega
  refine H ?_;rw[hw1];refine Gb O O O O O O O hx O ?_;refine D ?_ ?_<;>intro h
  .have hx0:x.toNat=0:=cP h;clear h;refine H ?_;refine⟨j,⟨J,?_⟩,J,O,congrArg I hw1,bP⟩;rw[<-hv,d9 hx,hx0];omega
  .have hx0:x.toNat≠0:=cG h;clear h;have ht:=fin fun j' hj' x' hx'=>by
    obtain rfl:j=j':=J;rw[hx]at hx';cases hx';exact hx0
   rw[ht]at ending;have htl:((a_ l).map eD).length=j+1:=by rw[aM,<-ht,hkl]
   refine H ?_;refine aC (b8 0 O O O O O O O O O O O ak O ?_);refine H ?_;refine bX O O (yc (n:=((j+1:Nat):Int)) O O O O O J J (fun _=>rfl)) ?_;rw[aS,jc,<-ending];refine H ?_;refine aC (cQ 1 O O O O O O O O O O O ak (by intro row hr;obtain⟨p,_,rfl⟩:=bF.1 hr;rfl) O O (by simp;have:=dy l;omega) (by simp;have:=dy l;omega) ?_);exact cy
 .have hk0:k=0:=cG h;subst hk0;clear h;have ht:=fin fun j' hj'=>by omega
  rw[ht]at ending;refine H ?_;refine aC (b8 0 O O O O O O O O O O O ak O ?_);refine H ?_;refine bX O O (yc (n:=((0:Nat):Int)) O O O O O J J (fun _=>rfl)) ?_;rw[aS,jc,<-ending];refine H ?_;refine aC (cQ 1 O O O O O O O O O O O ak (by intro row hr;obtain⟨p,_,rfl⟩:=bF.1 hr;rfl) O O (by simp;have:=dy l;omega) (by simp;have:=dy l;omega) ?_);exact cy
theorem f7 {α:Type}{l:List α}{k:Nat}{x:α}(h:l[k]?=some x):l.take (k+1)=l.take k++[x]:=by
 rw[mL,h];rfl
theorem qJ (l:List UInt16)(hl:l.length<=900000000):bb 133 [.sl (l.map eU)] (.sl ((a_ l).map eD)):=by
 have hml:(l.map eU).length=l.length:=aj;have ht:=iQ l J;refine ay Proofs.Tryz.func133 ?_
 ((repeat (first|refine bg ?_ | refine d_ ?_ | refine dK ?_ | refine dT ?_));refine bV ?_)
 refine m9 O trivial ?_
 ((repeat (first|refine bg ?_ | refine d_ ?_ | refine dK ?_ | refine dT ?_));refine bV ?_)
 (first|refine aC (j4 3 1 0 O O ?_)|refine aC (j3 3 1 0 O O ?_))
 refine H ?_;refine ao (fun k=>k<=l.length) (fun k=>[(0,.sl (l.map eU)),(3,.als 3 (k+1) 0 ((l.take k).map eD).length),(4,I (k:Nat))]) (fun k=>[(3,k+1,⟨3,1,(l.take k).map eD,0⟩)]) (fun k=>l.length-k) 0 (aF _) ak ?_;intro k s hk;refine D ?_ ?_<;>intro h
 .have hlt:k<l.length:=cP h;clear h;obtain⟨x,hx⟩:=aK hlt;have hxl:=bm x;have hkl:(l.take k).length=k:=by rw[bI];omega
  have hw:=im k;have hcx:IntKind.i64.wrap (x.toNat:Int)=(x.toNat:Int):=wrap_i64 J J;refine aZ hx ?_;refine H ?_;rw[hcx];refine aC (b8 0 O O O O O O O O O O O ak O ?_);refine H ?_;refine aC (cQ 0 O O O O O O O O O O O ak jM O O aX aX ?_);refine H ?_;refine⟨k+1,hlt,J,O,?_,congrArg I hw,?_,bP⟩
  .rw[f7 hx,bQ];rfl
  .rw[f7 hx,bQ];rfl
 .have hge:k=l.length:=cG h;subst hge;clear h;rw[bM]
  (refine dN 6 ?_;refine aD 1 ?_)
  refine g_ O ?_;refine bg ?_;refine aU O (eM (Ghost.takeF (enc:=eD) (t:=19) (l) O O (O) O (fun _=>rfl)) ?_)
  (refine l5 (eL O (ht) O ?_ O) ?_;.repeat' constructor)
  refine aE ?_;refine H ?_;exact jL O O O trivial O
theorem uo (a b:List UInt16)(ha:a.length<=1000000000)(hb:b.length<=1000000000):bb 139 [.sl (a.map eD),.sl (b.map eD)] (I (kX a b)):=by
 have hal:(a.map eD).length=a.length:=aj;have hbl:(b.map eD).length=b.length:=aj;by_cases he:a.length=b.length
 .rw[kX,if_pos he];have hw0:IntKind.i64.wrap (((((a.map eD).length:Nat):Int))-1)=(a.length:Int)-1:=by rw[hal,wrap_i64 J J]
  refine ay Proofs.Tryz.func139 ?_;refine D ?_ ?_<;>intro h
  .simp at h;omega
  clear h;refine H ?_;rw[hw0];refine ao (fun k:Nat=>k<=a.length/\ms a b k=ms a b a.length) (fun k=>[(0,.sl (a.map eD)),(1,.sl (b.map eD)),(5,I ((k:Int)-1))]) (fun _=>[]) (fun k=>k) a.length ⟨aH,O⟩ ak ?_;rintro k s ⟨hk,hc⟩;rw[<-hc];refine D ?_ ?_<;>intro h
  .have hk0:0<k:=cP h;clear h;obtain⟨j,rfl⟩:∃j,k=j+1:=⟨k-1,J⟩;have e1:(((j+1:Nat):Int)-1)=(j:Nat):=J;rw[e1];have hx:=cK (l:=a) (i:=j) J;have hy:=cK (l:=b) (i:=j) J;have hc1:ms a b (j+1)=if (a.getD j 0).toNat=(b.getD j 0).toNat then ms a b j else((a.getD j 0).toNat:Int)-(b.getD j 0).toNat:=O
   have hxl:=bm (a.getD j 0);have hyl:=bm (b.getD j 0);generalize a.getD j 0=x,b.getD j 0=y at *
   refine dg 9 [23,24,25,26,27,28,29,30,31] ?_;refine aZ hx ?_;refine aZ hy ?_;refine D ?_ ?_<;>intro h
   .have hne:¬x.toNat=y.toNat:=by simp at h;intro he;apply h;omega
    clear h;rw[if_neg hne]at hc1;rw[hc1];refine dg 10 [32,33,34,35,36,37,38,39,40,4] ?_;refine aZ hx ?_;refine aZ hy ?_;refine H ?_;rw[wrap_i64 (n:=(x.toNat:Int)-(y.toNat:Int)) J J];exact dL
   .have hne:x.toNat=y.toNat:=by simp at h;omega
    clear h;rw[if_pos hne]at hc1;refine H ?_;refine⟨j,⟨J,by rw[<-hc1,hc]⟩,J,O,O,?_,bP⟩;exact congrArg I (wrap_i64 J J)
  .have hk0:k=0:=cG h;subst hk0;clear h;exact dL
 .rw[kX,if_neg he];refine ay Proofs.Tryz.func139 ?_;refine D ?_ ?_<;>intro h
  .refine H ?_;rw[hal,hbl,wrap_i64 J J];exact rR O O O
  .simp at h;omega
theorem uq (a:Nat):Int.tmod (a:Int) 65536=((UInt16.ofNat a).toNat:Int):=by
 rw[bh,Int.tmod_eq_emod_of_nonneg J];omega
theorem um (a:Nat):Int.tdiv (a:Int) 65536=((a/65536:Nat):Int):=by
 rw[zf J];omega
theorem sO (k:Nat)(l:List UInt16)(a:UInt16):PV.als k (l.length+1+1) 0 (l.map eD++[eD a]).length=PV.als k ((l++[a]).length+1) 0 ((l++[a]).map eD).length:=by simp
theorem pY (T sz kd:Nat)(l:List UInt16)(a:UInt16):(l.length+1+1,some (Cont.mk T sz (l.map eD++[eD a]) kd))=((l++[a]).length+1,some (Cont.mk T sz ((l++[a]).map eD) kd)):=by simp
theorem yh (a b:List UInt16)(ha:a.length<=900000000)(hb:b.length<=900000000)(hle:nv b<=nv a):bb 140 [.sl (a.map eD),.sl (b.map eD)] (.sl ((aq (nv a-nv b)).map eD)):=by
 have hal:(a.map eD).length=a.length:=aj;refine ay Proofs.Tryz.func140 ?_
 ((repeat (first|refine bg ?_ | refine d_ ?_ | refine dK ?_ | refine dT ?_));refine bV ?_)
 refine m9 O trivial ?_
 ((repeat (first|refine bg ?_ | refine d_ ?_ | refine dK ?_ | refine dT ?_));refine bV ?_)
 (first|refine aC (j4 3 1 0 O O ?_)|refine aC (j3 3 1 0 O O ?_))
 refine H ?_;refine ao (RMin a b) (fun q=>[(0,.sl (a.map eD)),(1,.sl (b.map eD)),(5,.als 5 (q.2.1.length+1) 0 (q.2.1.map eD).length),(6,I (q.2.2:Nat)),(7,I (q.1:Nat))]) (fun q=>[(5,q.2.1.length+1,⟨3,1,q.2.1.map eD,0⟩)]) (fun q=>a.length-q.1) (0,[],0)
  ⟨O,Y,aF _,by simp[nv]⟩ ak ?_
 rintro⟨k,L,c⟩ s hI;have hc:=hI.c;have hLl:=hI.l;have hkk:=hI.k;simp only at hc hLl hkk;dsimp only;refine D ?_ ?_<;>intro h
 .have hlt:k<a.length:=cP h;clear h;have hst:=Bm hI hlt;have hx:=cK (l:=a) (i:=k) hlt;have e2:=nF b k J J;have hxl:=gL a k;have hyl:=gL b k;have hw:=im k;have hX:(a.getD k 0).toNat=gy a k:=O;generalize gy b k=y,gy a k=X,a.getD k 0=x at *
  subst hX;have s1:IntKind.i64.wrap ((x.toNat:Int)-(y:Int))=(x.toNat:Int)-(y:Int):=by rw[wrap_i64 J J]
  have s2:IntKind.i64.wrap ((x.toNat:Int)-(y:Int)-(c:Int))=(x.toNat:Int)-(y:Int)-(c:Int):=by rw[wrap_i64 J J]
  have hlen:(L.map eD).length=L.length:=aj;have hsd:=Hj hxl hyl hc;have hrow:∀m:Nat,m<65536->eD (UInt16.ofNat m)=[I (m:Nat)]:=fun m hm=>by rw[eD,bh,cM hm]
  by_cases hn:x.toNat<y+c
  .have hd:(x.toNat:Int)-(y:Int)-(c:Int)+65536=((B0 x.toNat y c:Nat):Int):=by rw[B0,if_pos hn];omega
   have s3:IntKind.i64.wrap ((x.toNat:Int)-(y:Int)-(c:Int)+65536)=((B0 x.toNat y c:Nat):Int):=by rw[hd,wrap_i64 J J]
   have hcc:Gg x.toNat y c=1:=by rw[Gg,if_pos hn]
   rw[hcc]at hst;have hrw:=hrow _ hsd.2.1;generalize B0 x.toNat y c=D0 at *
   refine dg 11 [15,16,17,18,19,20,21,22,23,24,8] ?_;refine aZ hx ?_;refine aB e2 ?_;refine H ?_;rw[s1];refine H ?_;rw[s2];refine D ?_ ?_<;>intro h
   .clear h;refine H ?_;rw[s3];refine H ?_;refine aC (b8 0 O O O O O O O O O O O ak O ?_);refine H ?_;refine aC (cQ 0 O O O O O O O O O O O ak jM O O aX aX ?_);refine H ?_;refine⟨(k+1,L++[UInt16.ofNat D0],1),hst,by simp only;omega,O,O,?_,O,congrArg I hw,?_,bP⟩
    .have:=sO 5 L (UInt16.ofNat D0);rw[hrw]at this;exact this
    .have:=pY 3 1 0 L (UInt16.ofNat D0);rw[hrw]at this;exact this
   .have:=cJ h;omega
  .have hd:(x.toNat:Int)-(y:Int)-(c:Int)=((B0 x.toNat y c:Nat):Int):=by rw[B0,if_neg hn];omega
   rw[hd]at s2;have hcc:Gg x.toNat y c=0:=by rw[Gg,if_neg hn]
   rw[hcc]at hst;have hrw:=hrow _ hsd.2.1;generalize B0 x.toNat y c=D0 at *
   refine dg 11 [15,16,17,18,19,20,21,22,23,24,8] ?_;refine aZ hx ?_;refine aB e2 ?_;refine H ?_;rw[s1];refine H ?_;rw[hd,s2];refine H ?_;refine aC (b8 0 O O O O O O O O O O O ak O ?_);refine H ?_;refine aC (cQ 0 O O O O O O O O O O O ak jM O O aX aX ?_);refine H ?_;refine⟨(k+1,L++[UInt16.ofNat D0],0),hst,by simp only;omega,O,O,?_,O,congrArg I hw,?_,bP⟩
   .have:=sO 5 L (UInt16.ofNat D0);rw[hrw]at this;exact this
   .have:=pY 3 1 0 L (UInt16.ofNat D0);rw[hrw]at this;exact this
 .have hge:k=a.length:=cG h;subst hge;clear h;have hfin:=DP hI hle;have ht:=iQ L J;rw[a_,hfin]at ht
  (refine dN 12 ?_;refine aD 1 ?_)
  refine g_ O ?_;refine bg ?_;refine aU O (eM (Ghost.takeF (enc:=eD) (t:=33) (L) O O (O) O (fun _=>rfl)) ?_)
  (refine l5 (eL O (ht) O ?_ O) ?_;.repeat' constructor)
  refine aE ?_;refine H ?_;exact jL O O O trivial O
theorem DM (n:Nat):List.replicate n [PV.int .i64 0]=(List.replicate n (0:UInt16)).map eD:=by rw[List.map_replicate];rfl
theorem uU (k g i:Nat)(R:List UInt16)(y:UInt16):PV.als k g 0 (((R.map eD).set i (eD y))).length=PV.als k g 0 ((R.set i y).map eD).length:=by simp
theorem rN (g T sz kd i:Nat)(R:List UInt16)(y:UInt16):(g,some (Cont.mk T sz ((R.map eD).set i (eD y)) kd))=(g,some (Cont.mk T sz ((R.set i y).map eD) kd)):=by rw[fD]
theorem qN (a b:List UInt16)(ha:a.length<=400000000)(hb:b.length<=400000000):bb 141 [.sl (a.map eD),.sl (b.map eD)] (.sl ((aq (nv a*nv b)).map eD)):=by
 have hal:(a.map eD).length=a.length:=aj;have hbl:(b.map eD).length=b.length:=aj;have hw0:IntKind.i64.wrap ((((a.map eD).length:Nat):Int)+(((b.map eD).length:Nat):Int))=((a.length+b.length:Nat):Int):=by rw[hal,hbl,wrap_i64 J J];omega
 have hw1:IntKind.i64.wrap (((a.length+b.length:Nat):Int)+1)=((a.length+b.length+1:Nat):Int):=by rw[wrap_i64 J J];omega
 refine ay Proofs.Tryz.func141 ?_;refine H ?_;rw[hw0];refine H ?_;rw[hw1];refine aC (jy O O O O O O O O J (by show(8:Int)*_<=_;omega) J ?_);rw[aS,DM];refine H ?_;refine ao (RTimO a b) (fun q=>[(0,.sl (a.map eD)),(1,.sl (b.map eD)),(5,.als 16 1 0 (q.2.map eD).length),(6,I q.1)])
  (fun q=>[(16,1,⟨3,1,q.2.map eD,0⟩)]) (fun q=>a.length-q.1) (0,List.replicate (a.length+b.length+1) 0) ⟨aF _,aj,by simp[nv];exact ud _⟩ ak ?_
 rintro⟨i,R⟩ s1 hO;have hi:=hO.i;have hRl:=hO.l;simp only at hi hRl;dsimp only;refine D ?_ ?_<;>intro h
 .have hlt:i<a.length:=cP h;clear h;refine H ?_;refine ao (RTimI a b i) (fun q=>[(0,.sl (a.map eD)),(1,.sl (b.map eD)),(5,.als 16 1 0 (q.2.1.map eD).length),(6,I i),(7,I (q.2.2:Nat)),(8,I (q.1:Nat))])
   (fun q=>[(16,1,⟨3,1,q.2.1.map eD,0⟩)]) (fun q=>b.length+1-q.1) (0,R,0) (ym hO) ak ?_
  rintro⟨k,Q,c⟩ s2 hI;have hk:=hI.k;have hc:=hI.c;have hQl:=hI.l;simp only at hk hc hQl;dsimp only;have hQm:(Q.map eD).length=Q.length:=aj;have body:∀_:k<b.length\/0<c,True:=fun _=>trivial;clear body;have hkB:=fun h=>Ia hI h;have hstep:=fun h=>Bs (r:=Q.getD (i+k) 0) hI h;have hnext:=fun h=>Br hI hlt h;refine fZ ?_ ?_<;>intro h
  .have hyes:k<b.length\/0<c := .inl (by have:=bK h;omega);clear h;have hkb:=hkB hyes;have hr:=cK (l:=Q) (i:=i+k) J;have hst:=hstep hkb hr;have hx:=cK (l:=a) (i:=i) hlt;have hX:(a.getD i 0).toNat=gy a i:=O;have hxl:=gL a i;have hyl:=gL b k;have e2:=nF b k J J;have hm:=v_ hxl hyl;have hrl:=bm (Q.getD (i+k) 0);have hr2:(Q.map eD)[i+k]?=some (eD (Q.getD (i+k) 0)):=by rw[aV,hr];rfl
   have ei:IntKind.i64.wrap ((i:Int)+(k:Int))=((i+k:Nat):Int):=by rw[wrap_i64 J J];omega
   generalize Q.getD (i+k) 0=r,gy b k=y,gy a i=X,a.getD i 0=x at *
   subst hX;have s1:IntKind.i64.wrap ((x.toNat:Int)*(y:Int))=((x.toNat*y:Nat):Int):=by rw[<-iB,wrap_i64 J J]
   have s2:IntKind.i64.wrap ((r.toNat:Int)+((x.toNat*y:Nat):Int))=((r.toNat+x.toNat*y:Nat):Int):=by rw[wrap_i64 J J];omega
   have s3:IntKind.i64.wrap (((r.toNat+x.toNat*y:Nat):Int)+(c:Int))=((r.toNat+x.toNat*y+c:Nat):Int):=by rw[wrap_i64 J J];omega
   generalize x.toNat*y=P at *
   have hrm:Int.tmod ((r.toNat+P+c:Nat):Int) 65536=((UInt16.ofNat (r.toNat+P+c)).toNat:Int):=uq _;have hq:IntKind.i64.wrap (Int.tdiv ((r.toNat+P+c:Nat):Int) 65536)=(((r.toNat+P+c)/65536:Nat):Int):=by rw[um,wrap_i64]<;>omega
   generalize hsm:r.toNat+P+c=sm at *
   refine dg 18 [33,34,35,36,37,38,39,40,41,42,43,44,45,46,47,48,49,9] ?_;refine H ?_;rw[ei];refine bX O O (co O O O O O O O J (by rw[aM];omega)) ?_;rw[aS,aG (i+k)];refine bX O O (c_ O O O hr2 O) ?_;refine aZ hx ?_;refine aB e2 ?_;refine H ?_;rw[s1];refine H ?_;rw[s2];refine H ?_;rw[s3];refine H ?_;rw[ei];refine H ?_;refine bX O O (QOp.v O (show ¬(65536:Int)=0 by decide)) ?_;rw[hrm];refine H ?_;refine bX O O (co O O O O O O O J (by rw[aM];omega)) ?_;rw[aS,aG (i+k)];refine c9 (bW (kd':=0) O O O hr2 O O ak O O O O ?_);refine H ?_;refine bX O O (QOp.v O (show ¬(65536:Int)=0 by decide)) ?_;rw[hq];refine H ?_;refine⟨(k+1,_,_),hst,by simp only;omega,O,O,?_,O,O,cU J J,?_,bP⟩
   .show PV.als 16 1 0 (Q.map eD).length=_;rw[<-uU 16 1 (i+k) Q (UInt16.ofNat sm),iA]
   .exact rN 1 3 1 0 (i+k) Q (UInt16.ofNat sm)
  .have h1:¬k<b.length:=cG h;clear h;refine D ?_ ?_<;>intro h
   .have hyes:k<b.length\/0<c := .inr (by have:=bK h;omega);clear h;have hkb:=hkB hyes;have hr:=cK (l:=Q) (i:=i+k) J;have hst:=hstep hkb hr;have hx:=cK (l:=a) (i:=i) hlt;have hX:(a.getD i 0).toNat=gy a i:=O;have hxl:=gL a i;have hyl:=gL b k;have e2:=nF b k J J;have hm:=v_ hxl hyl;have hrl:=bm (Q.getD (i+k) 0);have hr2:(Q.map eD)[i+k]?=some (eD (Q.getD (i+k) 0)):=by rw[aV,hr];rfl
    have ei:IntKind.i64.wrap ((i:Int)+(k:Int))=((i+k:Nat):Int):=by rw[wrap_i64 J J];omega
    generalize Q.getD (i+k) 0=r,gy b k=y,gy a i=X,a.getD i 0=x at *
    subst hX;have s1:IntKind.i64.wrap ((x.toNat:Int)*(y:Int))=((x.toNat*y:Nat):Int):=by rw[<-iB,wrap_i64 J J]
    have s2:IntKind.i64.wrap ((r.toNat:Int)+((x.toNat*y:Nat):Int))=((r.toNat+x.toNat*y:Nat):Int):=by rw[wrap_i64 J J];omega
    have s3:IntKind.i64.wrap (((r.toNat+x.toNat*y:Nat):Int)+(c:Int))=((r.toNat+x.toNat*y+c:Nat):Int):=by rw[wrap_i64 J J];omega
    generalize x.toNat*y=P at *
    have hrm:Int.tmod ((r.toNat+P+c:Nat):Int) 65536=((UInt16.ofNat (r.toNat+P+c)).toNat:Int):=uq _;have hq:IntKind.i64.wrap (Int.tdiv ((r.toNat+P+c:Nat):Int) 65536)=(((r.toNat+P+c)/65536:Nat):Int):=by rw[um,wrap_i64]<;>omega
    generalize hsm:r.toNat+P+c=sm at *
    refine dg 18 [33,34,35,36,37,38,39,40,41,42,43,44,45,46,47,48,49,9] ?_;refine H ?_;rw[ei];refine bX O O (co O O O O O O O J (by rw[aM];omega)) ?_;rw[aS,aG (i+k)];refine bX O O (c_ O O O hr2 O) ?_;refine aZ hx ?_;refine aB e2 ?_;refine H ?_;rw[s1];refine H ?_;rw[s2];refine H ?_;rw[s3];refine H ?_;rw[ei];refine H ?_;refine bX O O (QOp.v O (show ¬(65536:Int)=0 by decide)) ?_;rw[hrm];refine H ?_;refine bX O O (co O O O O O O O J (by rw[aM];omega)) ?_;rw[aS,aG (i+k)];refine c9 (bW (kd':=0) O O O hr2 O O ak O O O O ?_);refine H ?_;refine bX O O (QOp.v O (show ¬(65536:Int)=0 by decide)) ?_;rw[hq];refine H ?_;refine⟨(k+1,_,_),hst,by simp only;omega,O,O,?_,O,O,cU J J,?_,bP⟩
    .show PV.als 16 1 0 (Q.map eD).length=_;rw[<-uU 16 1 (i+k) Q (UInt16.ofNat sm),iA]
    .exact rN 1 3 1 0 (i+k) Q (UInt16.ofNat sm)
   .have h2:¬0<c:=cG h;clear h;have hst:=hnext J;refine H ?_;refine⟨(i+1,Q),hst,by simp only;omega,O,O,O,cU J J,O,bP⟩
 .have hge:i=a.length:=cG h;subst hge;clear h;have hv:=hO.v;simp only[bM]at hv;have ht:=iQ R J;rw[a_,hv]at ht
  (refine dN 12 ?_;refine aD 1 ?_)
  refine g_ O ?_;refine bg ?_;refine aU O (eM (Ghost.takeF (enc:=eD) (t:=59) (R) O O (O) O (fun _=>rfl)) ?_)
  (refine l5 (eL O (ht) O ?_ O) ?_;.repeat' constructor)
  refine aE ?_;refine H ?_;exact jL O O O trivial O
theorem Dv {m:Nat}(h:m<65536):nv [UInt16.ofNat m]=m:=by simp[nv];omega
theorem Cz {m:Nat}(h:m<65536):eD (UInt16.ofNat m)=[I (m:Nat)]:=by rw[eD,bh,cM h]
theorem zC (x:UInt16)(l:List UInt16):nv (x::l)=x.toNat+65536*nv l:=rfl
theorem jt {n:Nat}{L:List UInt16}(h:n<=nv L):(aq n).length<=L.length:=cS (jo h (cX L))
def IN (a b:List UInt16):PV := .tup [.sl ((aq (nv a/nv b)).map eD),.sl ((aq (nv a%nv b)).map eD)]
structure RHalf (q lo hi:Nat):Prop where
 l:lo<=q
 h:q<=hi
 m:hi<=65535
theorem nX (a b:List UInt16)(ha:a.length<=200000000)(hb:b.length<=200000000)(hb0:nv b≠0):bb 137 [.sl (a.map eD),.sl (b.map eD)] (IN a b):=by
 have hal:(a.map eD).length=a.length:=aj;have hbp:0<nv b:=jp hb0;rw[IN];have hw0:IntKind.i64.wrap ((((a.map eD).length:Nat):Int)-1)=((a.length:Nat):Int)-1:=by rw[hal,wrap_i64 J J]
 refine ay Proofs.Tryz.func137 ?_;refine dN 2 ?_;refine ax (Ghost.nilsl (t:=6) O) ?_;refine H ?_;refine aC (jy O O O O O O O O J (by show(8:Int)*_<=_;omega) J ?_);rw[hal,aS,DM];refine H ?_;rw[hw0];refine ao (ROvr a b) (fun q=>[(0,.sl (a.map eD)),(1,.sl (b.map eD)),(6,.sl ((aq q.2.2).map eD)),(7,.als 14 1 0 (q.2.1.map eD).length),(8,I ((q.1:Int)-1))])
  (fun q=>[(14,1,⟨3,1,q.2.1.map eD,0⟩)]) (fun q=>q.1) (a.length,List.replicate a.length 0,0) yj ⟨O,O,by rw[bN];rfl,ak⟩ ?_
 rintro⟨k,Q,r⟩ s1 hO;have hk:=hO.i;have hQl:=hO.l;simp only at hk hQl;dsimp only;refine D ?_ ?_<;>intro h
 .have hk0:0<k:=cP h;clear h;obtain⟨i,rfl⟩:∃i,k=i+1:=⟨k-1,J⟩;have e1:(((i+1:Nat):Int)-1)=(i:Nat):=J;rw[e1];obtain⟨x,hx⟩:=aK (show i<a.length by omega);have hxl:=bm x;obtain⟨hq,hst⟩:=Bp hbp hO hx;have hrb:r<nv b:=by have:=hO.r;simp only at this;rw[this];exact d0 _ hbp
  have hrl:(aq r).length<=200000000:=by have:=jt (L:=b) (je hrb);omega
  have htr:=iQ (x::aq r) aX;rw[a_,zC,aO]at htr;have hRl:(aq (x.toNat+65536*r)).length<=200000001:=by
   have:=ff (x::aq r);rw[zC,aO]at this;simp at this;omega
  generalize hR:x.toNat+65536*r=R at *
  have hRm:R%nv b=R-nv b*(R/nv b):=by have:=gE R (nv b);omega
  have hQm:(Q.map eD).length=Q.length:=aj;have hQi:=cK (l:=Q) (i:=i) J;have hQ2:(Q.map eD)[i]?=some (eD (Q.getD i 0)):=by rw[aV,hQi];rfl
  have hrow:(x::aq r).map eD=[eD x]++(aq r).map eD:=O
  (refine dN 6 ?_;refine aD 7 ?_)
  iterate 2 refine g_ O ?_
  refine Gb O O O O O O O hx O ?_;refine g_ O ?_;refine aC (b8 0 O O O O O O O O O O O ak O ?_);refine g_ O ?_;refine aC (cQ 1 O O O O O O O O O O O ak (by intro row hr;obtain⟨p,_,rfl⟩:=bF.1 hr;rfl) O O aX aX ?_);refine bg ?_;refine aU O (eM (Ghost.takeF (enc:=eD) (t:=28) (x::aq r) O O (O) O (fun _=>rfl)) ?_)
  (refine l5 (eL O (htr) O ?_ O) ?_;.repeat' constructor)
  refine aE ?_;refine H ?_;refine ao (fun q:Nat × Nat=>RHalf (R/nv b) q.1 q.2) (fun q=>[(0,.sl (a.map eD)),(1,.sl (b.map eD)),(6,.sl ((aq R).map eD)),(7,.als 14 1 0 (Q.map eD).length),(8,I (i:Nat)),(9,I (q.1:Nat)),(10,I (q.2:Nat))])
   (fun q=>[(14,1,⟨3,1,Q.map eD,0⟩)]) (fun q=>q.2-q.1) (0,65535) ⟨aF _,by simp only;omega,aH⟩ ak ?_
  rintro⟨lo,hi⟩ s2 ⟨hl,hh,hm⟩;simp only at hl hh hm;dsimp only;refine D ?_ ?_<;>intro h
  .have hlt:lo<hi:=cP h;clear h;have w1:IntKind.i64.wrap ((lo:Int)+(hi:Int))=((lo+hi:Nat):Int):=by rw[wrap_i64 J J];omega
   have w2:IntKind.i64.wrap (((lo+hi:Nat):Int)+1)=((lo+hi+1:Nat):Int):=by rw[wrap_i64 J J];omega
   have w3:IntKind.i64.wrap (Int.tdiv ((lo+hi+1:Nat):Int) 2)=(((lo+hi+1)/2:Nat):Int):=by rw[zf J,wrap_i64]<;>omega
   generalize hmm:(lo+hi+1)/2=m at *
   have w4:IntKind.i64.wrap ((m:Int)-1)=((m-1:Nat):Int):=by rw[wrap_i64 J J];omega
   have hm1:m<65536:=J;have ht:=qN b [UInt16.ofNat m] J aj;rw[Dv hm1,show [UInt16.ofNat m].map eD=[eD (UInt16.ofNat m)] from O,Cz hm1]at ht;have hbm:(aq (nv b*m)).length<=300000000:=by
    have h1:nv b*m<65536^(b.length+1):=by
     have:=gS (cX b) (show m<65536^1 by omega);exact this
    have:=cS h1;omega
   have hc:=uo (aq (nv b*m)) (aq R) J J;have hcs:=iJ (cf (nv b*m)) (cf R);rw[aO,aO]at hcs;have hle:kX (aq (nv b*m)) (aq R)<=0↔m<=R/nv b:=by
    rw[oV hbp,b0 m];omega
   generalize kX (aq (nv b*m)) (aq R)=cv at *
   generalize aq (nv b*m)=BM at *
   refine H ?_;rw[w1];refine H ?_;rw[w2];refine H ?_;refine bX O O (QOp.v O (show ¬(2:Int)=0 by decide)) ?_;rw[w3];refine H ?_;refine bX O O (gW O O O O O O O O O O ak O) ?_;refine G ht ?_;refine aB hc ?_;refine D ?_ ?_<;>intro h
   .have h1:=hle.1 (bK h);clear h;refine H ?_;exact⟨(m,hi),⟨h1,hh,hm⟩,by simp only;omega,ak⟩
   .have h1:¬m<=R/nv b:=fun h2=>(cJ h) (hle.2 h2);clear h;refine H ?_;exact⟨(lo,m-1),⟨hl,by simp only;omega,by simp only;omega⟩,by simp only;omega,O,O,O,O,O,O,congrArg I w4,O,bP⟩
  .have hge:lo=R/nv b:=cG h;clear h;have hw:=An ((i:Int)-1);rw[<-hge]at hst hRm;have hlo:lo<65536:=J;have hlb:nv b*lo<=R:=by rw[hge];exact Nat.mul_div_le R (nv b)
   have hbl:(aq (nv b*lo)).length<=200000001:=by have:=ga hlb;omega
   have ht:=qN b [UInt16.ofNat lo] J aj;rw[Dv hlo,show [UInt16.ofNat lo].map eD=[eD (UInt16.ofNat lo)] from O,Cz hlo]at ht;have hmn:=yh (aq R) (aq (nv b*lo)) J J (by rw[aO,aO];exact hlb);rw[aO,aO,<-hRm]at hmn;have hset:(Q.map eD).set i [I (lo:Nat)]=(Q.set i (UInt16.ofNat lo)).map eD:=by rw[fD,Cz hlo]
   have hsetl:(Q.map eD).length=((Q.set i (UInt16.ofNat lo)).map eD).length:=aj;generalize aq (nv b*lo)=BL at *
   refine H ?_;refine bX O O (co O O O O O O O J (by rw[aM];omega)) ?_;rw[aS,aG i];refine c9 (bW (kd':=0) O O O hQ2 O O ak O O O O ?_);refine D ?_ ?_<;>intro h
   .have h1:0<lo:=cP h;clear h;refine H ?_;refine bX O O (gW O O O O O O O O O O ak O) ?_;refine G ht ?_;refine G hmn ?_;refine H ?_;refine⟨(i,Q.set i (UInt16.ofNat lo),R%nv b),hst,by simp only;omega,O,O,O,?_,congrArg I hw,?_,bP⟩
    .exact congrArg (PV.als 14 1 0) hsetl
    .show(1,some (Cont.mk 3 1 ((Q.map eD).set i [I (lo:Nat)]) 0))=_;rw[hset]
   .have h1:lo=0:=cG h;clear h;have hRR:R%nv b=R:=by rw[hRm,h1];omega
    refine H ?_;refine⟨(i,Q.set i (UInt16.ofNat lo),R%nv b),hst,by simp only;omega,O,O,by rw[hRR];rfl,?_,congrArg I hw,?_,bP⟩
    .exact congrArg (PV.als 14 1 0) hsetl
    .show(1,some (Cont.mk 3 1 ((Q.map eD).set i [I (lo:Nat)]) 0))=_;rw[hset]
 .have hk0:k=0:=cG h;subst hk0;clear h;obtain⟨hv,hr⟩:=DS hO;subst hr;have ht:=iQ Q J;rw[a_,hv]at ht
  (refine dN 16 ?_;refine aD 1 ?_)
  refine g_ O ?_;refine bg ?_;refine aU O (eM (Ghost.takeF (enc:=eD) (t:=60) (Q) O O (O) O (fun _=>rfl)) ?_)
  (refine l5 (eL O (ht) O ?_ O) ?_;.repeat' constructor)
  refine aE ?_;refine H ?_;exact xG O O O O O trivial trivial O
theorem DO (a b:List UInt16)(ha:a.length<=100000000)(hb:b.length<=100000000)(hta:Trm a)(htb:Trm b):bb 136 [.sl (a.map eD),.sl (b.map eD)] (.sl ((aq (Nat.gcd (nv a) (nv b))).map eD)):=by
 generalize hg:Nat.gcd (nv a) (nv b)=g;refine ay Proofs.Tryz.func136 ?_;refine H ?_;refine ao (fun q:List UInt16 × List UInt16=>q.1.length<=100000000/\q.2.length<=100000000/\Trm q.1/\Trm q.2/\Nat.gcd (nv q.1) (nv q.2)=g) (fun q=>[(0,.sl (q.1.map eD)),(1,.sl (q.2.map eD))]) (fun _=>[]) (fun q=>nv q.2) (a,b) ⟨ha,hb,hta,htb,hg⟩ ak ?_;rintro⟨A,B⟩ s ⟨hA,hB,htA,htB,hG⟩;simp only at hA hB htA htB hG;dsimp only;have hBm:(B.map eD).length=B.length:=aj;refine D ?_ ?_<;>intro h
 .have hB0:0<B.length:=cP h;clear h;have hB0v:nv B≠0:=by
   match B,hB0,htB with
   |x::l,_,h=>exact pF h
  have hd:=nX A B J J hB0v;rw[IN]at hd;have hml:=d0 (nv A) (jp hB0v);have hnext:(aq (nv A%nv B)).length<=100000000:=by
   have h1:=ga (je hml);have h2:=ff B;omega
  have hG2:Nat.gcd (nv B) (nv (aq (nv A%nv B)))=g:=by rw[aO,jf,<-Nat.gcd_rec,jf];exact hG
  refine G hd ?_;refine H ?_;exact⟨(B,aq (nv A%nv B)),⟨hB,hnext,htB,cf _,hG2⟩,by simp only;rw[aO];exact hml,ak⟩
 .have hB0:B.length=0:=cG h;clear h;have hB0v:=nP.1 hB0;subst hB0v;rw[nv,tC]at hG;rw[<-hG,gP htA];refine H ?_;exact jL O O O trivial O
theorem Dt (neg:Bool)(l:List UInt16)(h:Trm l):dQ (iU neg (nv l))=⟨neg&&decide (0<l.length),l⟩:=by
 rw[pt];cases l with
 |nil=>rw[nv,if_pos rfl];simp
 |cons x l =>
  rw[if_neg (pF h),gP h];simp
theorem mT (neg:Bool)(l:List UInt16)(hl:l.length<=900000000)(ht:Trm l):bb 134 [.bool neg,.sl (l.map eD)] (.agg (eI (dQ (iU neg (nv l))))):=by
 have hml:(l.map eD).length=l.length:=aj;rw[Dt neg l ht];cases neg with
 |false =>
  rw[kG];refine ay Proofs.Tryz.func134 ?_;refine dN 2 ?_;refine ax (Ghost.nilcell (k:=1007) (k0:=5) (i:=0) (j:=1) 218 1 0 O O O O (row:=[.bool false,.nil]) O O O) ?_;refine H ?_;refine ao (fun k=>k<=l.length) (fun k=>[(1,.sl (l.map eD)),(4,.ptr 4 1 0 0),(5,.ptr 5 1 0 0),(6,I (k:Nat))])
   (fun k=>[(4,1,⟨39,2,[[.bool false,.nil]],2⟩),(5,1,⟨39,2,[[.bool false,.als 1007 (k+1) 0 ((l.take k).map eU).length]],2⟩),(1007,k+1,⟨218,1,(l.take k).map eU,0⟩)]) (fun k=>l.length-k) 0 (aF _) ak ?_
  intro k s hk;refine D ?_ ?_<;>intro h
  .have hlt:k<l.length:=cP h;clear h;obtain⟨x,hx⟩:=aK hlt;have hxl:=bm x;have hkl:(l.take k).length=k:=by rw[bI];omega
   have hw:=im k;have hcx:IntKind.u16.wrap (x.toNat:Int)=(x.toNat:Int):=by rw[IntKind.wrap_u16];omega
   refine dg 8 [20,21,22,23,24,25,26,27] ?_;refine aZ hx ?_;refine H ?_;rw[hcx];refine bX O O (gW O O O O O O O O O O ak O) ?_;refine H ?_;refine aC (cQ 0 O O O O O O O O O O O ak jM O O aX aX ?_);refine H ?_;refine⟨k+1,hlt,J,O,O,O,congrArg I hw,O,?_,?_,bP⟩
   .rw[f7 hx,bQ];rfl
   .rw[f7 hx,bQ];rfl
  .have hge:k=l.length:=cG h;subst hge;clear h;rw[bM];exact cy
 |true =>
  rw[jd];have hd:decide ((0:Int)<(((l.map eD).length:Nat):Int))=decide (0<l.length):=by rw[hml,decide_eq_decide];omega
  rw[<-hd];generalize hP:decide ((0:Int)<(((l.map eD).length:Nat):Int))=P;refine ay Proofs.Tryz.func134 ?_
  ((repeat (first|refine bg ?_ | refine d_ ?_ | refine dK ?_ | refine dT ?_));refine bV ?_)
  refine dN 2 ?_;rw[hP];refine ax (Ghost.nilcell (k:=1007) (k0:=5) (i:=0) (j:=1) 218 1 0 O O O O (row:=[.bool P,.nil]) O O O) ?_;refine H ?_;refine ao (fun k=>k<=l.length) (fun k=>[(1,.sl (l.map eD)),(4,.ptr 4 1 0 0),(5,.ptr 5 1 0 0),(6,I (k:Nat))])
   (fun k=>[(4,1,⟨39,2,[[.bool false,.nil]],2⟩),(5,1,⟨39,2,[[.bool P,.als 1007 (k+1) 0 ((l.take k).map eU).length]],2⟩),(1007,k+1,⟨218,1,(l.take k).map eU,0⟩)]) (fun k=>l.length-k) 0 (aF _) ak ?_
  intro k s hk;refine D ?_ ?_<;>intro h
  .have hlt:k<l.length:=cP h;clear h;obtain⟨x,hx⟩:=aK hlt;have hxl:=bm x;have hkl:(l.take k).length=k:=by rw[bI];omega
   have hw:=im k;have hcx:IntKind.u16.wrap (x.toNat:Int)=(x.toNat:Int):=by rw[IntKind.wrap_u16];omega
   refine dg 8 [20,21,22,23,24,25,26,27] ?_;refine aZ hx ?_;refine H ?_;rw[hcx];refine bX O O (gW O O O O O O O O O O ak O) ?_;refine H ?_;refine aC (cQ 0 O O O O O O O O O O O ak jM O O aX aX ?_);refine H ?_;refine⟨k+1,hlt,J,O,O,O,congrArg I hw,O,?_,?_,bP⟩
   .rw[f7 hx,bQ];rfl
   .rw[f7 hx,bQ];rfl
  .have hge:k=l.length:=cG h;subst hge;clear h;rw[bM];exact cy
theorem qr {n:Nat}{L:List UInt16}{u:Nat}(h:aq n=L++aq u)(hu:0<u):aq n=(L++[UInt16.ofNat u])++aq (u/65536):=by
 rw[h,et J,bt];rfl
theorem qp {n:Nat}(h:n<18446744073709551616):(aq n).length<=4:=by
 have e:(65536:Nat)^4=18446744073709551616:=Y;exact cS J
theorem Gd (n:Int)(h0:0<=n)(h1:n<=9223372036854775807):bb 135 [I n] (.agg (eI (dQ n))):=by
 have hm:=mT false (aq n.toNat) (by have:=qp (n:=n.toNat) J;omega) (cf _);rw[aO,show iU false n.toNat=n by rw[iU];simp;omega]at hm;have hcv:IntKind.u64.wrap n=((n.toNat:Nat):Int):=by rw[wrap_u64 J J];omega
 have hnl:=qp (n:=n.toNat) J;have hlt:decide (n<0)=false:=decide_eq_false J;generalize dQ n=Z at *
 refine ay Proofs.Tryz.func135 ?_;refine dN 1 ?_
 ((repeat (first|refine bg ?_ | refine d_ ?_ | refine dK ?_ | refine dT ?_));refine bV ?_)
 (first|refine aC (j4 3 1 0 O O ?_)|refine aC (j3 3 1 0 O O ?_))
 refine H ?_;rw[hcv];refine D ?_ ?_<;>intro h
 .have:=bK h;omega
 clear h;refine H ?_;refine ao (fun q:List UInt16 × Nat=>q.2<18446744073709551616/\aq n.toNat=q.1++aq q.2) (fun q=>[(0,I n),(2,.ptr 2 1 0 0),(3,.als 3 (q.1.length+1) 0 (q.1.map eD).length),(4,.int .u64 (q.2:Nat))])
  (fun q=>[(2,1,⟨39,2,[[.bool false,.nil]],2⟩),(3,q.1.length+1,⟨3,1,q.1.map eD,0⟩)]) (fun q=>q.2) ([],n.toNat) ⟨by simp only;omega,O⟩ ak ?_
 rintro⟨L,u⟩ s ⟨hu,hL⟩;simp only at hu hL;dsimp only;have hLl:L.length<=4:=by rw[hL]at hnl;simp at hnl;omega
 refine D ?_ ?_<;>intro h
 .have hu0:0<u:=cP h;clear h;have hst:=qr hL hu0;have hr:IntKind.i64.wrap (Int.tmod ((u:Nat):Int) 65536)=((UInt16.ofNat u).toNat:Int):=by rw[uq,wrap_i64]<;>(have:=bm (UInt16.ofNat u);omega)
  have hq:IntKind.u64.wrap (Int.tdiv ((u:Nat):Int) 65536)=((u/65536:Nat):Int):=by rw[um,wrap_u64]<;>omega
  refine H ?_;refine bX O O (QOp.v O (show ¬(65536:Int)=0 by decide)) ?_;refine H ?_;rw[hr];refine aC (b8 0 O O O O O O O O O O O ak O ?_);refine H ?_;refine aC (cQ 0 O O O O O O O O O O O ak jM O O aX aX ?_);refine H ?_;refine bX O O (QOp.v O (show ¬(65536:Int)=0 by decide)) ?_;rw[hq];refine H ?_;refine⟨(L++[UInt16.ofNat u],u/65536),⟨by simp only;omega,hst⟩,by simp only;omega,O,O,?_,O,O,?_,bP⟩
  .exact sO 3 L (UInt16.ofNat u)
  .exact pY 3 1 0 L (UInt16.ofNat u)
 .have hu0:u=0:=cG h;clear h;subst hu0;rw[bN,cu]at hL;rw[hL]at hm
  (refine dN 8 ?_;refine aD 3 ?_)
  iterate 2 refine g_ O ?_
  rw[hlt];refine g_ O ?_;refine bg ?_;refine aU O (eM (Ghost.takeF (enc:=eD) (t:=23) (L) O O (O) O (fun _=>rfl)) ?_)
  (refine l5 (eL O (hm) O ?_ O) ?_;.repeat' constructor)
  refine aE ?_;exact cy
theorem Bq (a:RI)(ha:a.l.length<=800000000):bb 67 [.agg (eI a)] (I (nB a.val)):=by
 have ht:=qJ a.l J;have hm:((a_ a.l).map eD).length=(a_ a.l).length:=aj;have h0:=oa (l:=a.l);have hz:=a.val_zero;have hv:a.val=if a.neg then -(nv a.l:Int) else(nv a.l:Int):=O
 generalize a_ a.l=T at *
 obtain⟨an,al⟩:=a;simp only at *
 refine ay Proofs.Tryz.func67 ?_;refine G ht ?_;refine D ?_ ?_<;>intro h
 .have h1:nv al=0:=h0.1 (by have:=bK h;omega);rw[nB,if_pos (hz.2 h1)];exact dL
 .have h1:nv al≠0:=by
   intro h1;have h2:=cJ h;have:=h0.2 h1;omega
  rw[nB,if_neg (fun h=>h1 (hz.1 h))];clear h;cases an
  .rw[if_neg (by rw[hv];simp only[cF,if_false];omega)];exact dL
  .rw[if_pos (by rw[hv];simp only[if_true];omega)];exact dL
theorem wc (z:Int):ofQ ((z:Rat))=⟨dQ z,dQ 1⟩:=by
 rw[ofQ,Rat.num_intCast,Rat.den_intCast];rfl
theorem FQ (q:Rat):ofQ q=⟨dQ q.num,dQ (q.den:Int)⟩:=by
 rw[ofQ,dQ,dQ];congr 2
theorem yi (a b:RI)(ha:a.l.length<=90000000)(hb:b.l.length<=90000000):bb 64 [.agg (eI a),.agg (eI b)] (.agg (eR (ofQ ((a.val:Rat)/(b.den:Rat))))):=by
 have hta:=qJ a.l J;have htb:=qJ b.l J;have hla:=dy a.l;have hlb:=dy b.l;have hb0:=oa (l:=b.l);have hAn:=gh a.l;have hBn:=gh b.l;have hAt:=kU a.l;have hBt:=kU b.l;have h1:=Gd 1 Y Y;by_cases h0:nv b.l=0
 .have e:ofQ ((a.val:Rat)/(b.den:Rat))=⟨dQ a.val,dQ 1⟩:=by
   rw[RI.den,if_pos h0,<-wc];congr 1;rw[show((1:Int):Rat)=1 from O];grind
  rw[e];have hm:=mT a.neg (a_ a.l) J hAt;rw[hAn,<-a.val_sgz]at hm;have hz:a_ b.l=[]:=by rw[a_,h0,bN]
  rw[hz]at htb;generalize dQ a.val=X,dQ 1=Y0,a_ a.l=A at *
  obtain⟨an,al⟩:=a;obtain⟨bn,bl⟩:=b;simp only at *
  refine ay Proofs.Tryz.func64 ?_;refine dg 8 [12,13,14,15,16,17,5,6] ?_;refine G hta ?_;refine G htb ?_;refine G hm ?_;refine G h1 ?_;exact cy
 .have hbp:0<nv b.l:=jp h0;rw[RI.den,if_neg h0,we a b h0];have hg:=DO (a_ a.l) (a_ b.l) J J hAt hBt;rw[hAn,hBn]at hg;have hgp:0<Nat.gcd (nv a.l) (nv b.l):=tk _ hbp;have hgl:Nat.gcd (nv a.l) (nv b.l)<=nv b.l:=Nat.gcd_le_right _ hbp;have hgs:(aq (Nat.gcd (nv a.l) (nv b.l))).length<=90000000:=by
   have:=jt (L:=b.l) hgl;omega
  generalize Nat.gcd (nv a.l) (nv b.l)=g at *
  have d1:=nX (a_ a.l) (aq g) J J (by rw[aO];omega);have d2:=nX (a_ b.l) (aq g) J J (by rw[aO];omega);rw[IN,aO,hAn]at d1;rw[IN,aO,hBn]at d2;have m1:=mT (a.neg != b.neg) (aq (nv a.l/g)) (by have:=jt (L:=a.l) (gD (nv a.l) g);omega) (cf _);have m2:=mT false (aq (nv b.l/g)) (by have:=jt (L:=b.l) (gD (nv b.l) g);omega) (cf _);rw[aO]at m1 m2;have hbl:¬((a_ b.l).length=0):=fun h=>h0 (hb0.1 h);have hbm:((a_ b.l).map eD).length=(a_ b.l).length:=aj;generalize dQ (iU (a.neg != b.neg) (nv a.l/g))=X,dQ (iU false (nv b.l/g))=Y0,aq (nv a.l/g)=A2,aq (nv b.l/g)=B2,aq (nv a.l%g)=A3,aq (nv b.l%g)=B3,aq g=G0,a_ a.l=A,a_ b.l=B at *
  obtain⟨an,al⟩:=a;obtain⟨bn,bl⟩:=b;simp only at *
  refine ay Proofs.Tryz.func64 ?_;refine dg 8 [12,13,14,15,16,17,5,6] ?_;refine G hta ?_;refine G htb ?_;refine D ?_ ?_<;>intro h
  .exact absurd (by have:=bK h;omega) hbl
  clear h;refine G hg ?_;refine G d1 ?_;refine G d2 ?_;refine G m1 ?_;refine G m2 ?_;exact cy
theorem Bn (x:RR)(hn:x.n.l.length<=90000000)(hd:x.d.l.length<=90000000):bb 63 [.agg (eR x)] (.agg (eR (ofQ x.val))):=by
 have h:=yi x.n x.d hn hd;rw[show(x.n.val:Rat)/(x.d.den:Rat)=x.val from O]at h;generalize ofQ x.val=X at *
 refine ay Proofs.Tryz.func63 ?_;refine G h ?_;exact cy
theorem Hd (q:Rat):(ofQ q).n.val=q.num:=dV _
theorem Hc (q:Rat):(ofQ q).d.val=(q.den:Int):=by rw[FQ];exact dV _
theorem Ga (q:Rat):nv (ofQ q).d.l≠0:=by
 have:=Hc q;have h2:=(ofQ q).d.val_abs;rw[this]at h2;have:=q.den_pos;omega
theorem Gk (p:Rat):nB p.num=sgn p:=by
 have h1:(ofQ p).val=p:=ofQ_val p;have h2:=z7 (ofQ p);rw[h1,Hd]at h2;have h3:(dn (ofQ p)).val=(p.den:Int):=by rw[dn,if_neg (Ga p),Hc]
 rw[h3]at h2;rw[h2];have:=p.den_pos;have h4:nB (p.den:Int)=1:=by unfold nB;split<;>(try split)<;>omega
 rw[h4];omega
theorem rsignR_ret (x:RR){p:Rat}{n:Nat}[hx:Vq x p n](hn:n<=50000000):bb 23 [.agg (eR x)] (I (sgn p)):=by
 have h1:=hx.sz;have hl:=nK hx.hq.ok;have hnm:=Bn x J J;rw[hx.val]at hnm;have hs:=Bq (ofQ p).n J;rw[Hd,Gk]at hs;generalize sgn p=g,ofQ p=P at *
 obtain⟨Pn,Pd⟩:=P;simp only at *
 refine ay Proofs.Tryz.func23 ?_;refine G hnm ?_;refine aB hs ?_;exact dL
def fX (x:Rat):Rat:=if 0<x then x else 0
def tZ (x y:Rat):Rat:=if y<x then y else x
def bU (M:Nat->Rat):Nat->Rat
 |0=>0
 |k+1=>M k
def fp (S M:Nat->Rat)(y:Rat)(k:Nat):Rat:=if y-S k<0 then 0 else(M k-bU M k)*(y-S k)
def xb (S:Nat->Rat)(n:Nat)(y:Rat)(k:Nat):Rat:=if k+1<n then tZ y (S (k+1)) else y
def iE (S M:Nat->Rat)(n:Nat)(y:Rat)(k:Nat):Rat:=M k*fX (xb S n y k-S k)
theorem nV {S M:Nat->Rat}{y:Rat}(k:Nat):fp S M y k=(M k-bU M k)*fX (y-S k):=by
 rw[fp,fX];grind
theorem so (S M:Nat->Rat)(y:Rat):∀(k n:Nat),(∀i,i<k->S i<S (i+1))->k<n->am (fp S M y) (k+1)=am (iE S M n y) k+M k*fX (y-S k)
 |0,n,_,_=>by
  rw[am,am,am,nV,bU];grind
 |k+1,n,h,hk=>by
  have ih:=so S M y k n (fun i hi=>h i J) J;have hs:=h k J;rw[am,ih,nV,bU,am,iE,xb,if_pos hk];have key:fX (y-S k)=fX (tZ y (S (k+1))-S k)+fX (y-S (k+1)):=by
   simp only[fX,tZ];grind
  rw[key];grind
theorem jA {S M:Nat->Rat}{y:Rat}{n:Nat}(h:∀i,i+1<n->S i<S (i+1)):am (fp S M y) n=am (iE S M n y) n:=by
 cases n with
 |zero=>rfl
 |succ k =>
  rw[so S M y k (k+1) (fun i hi=>h i J) J];rw[am,iE,xb,if_neg J]
theorem uD {f g:Nat->Rat}:∀ {n:Nat},(∀k,k<n->f k<=g k)->am f n<=am g n
 |0,_=>du
 |n+1,h=>by
  have h1:=uD (n:=n) fun k hk=>h k J;have h2:=h n J;rw[am,am];grind
theorem w7 {f g:Nat->Rat}:∀ {n:Nat},am (fun k=>f k+g k) n=am f n+am g n
 |0=>by rw[am,am,am];grind
 |n+1=>by rw[am,am,am,w7];grind
theorem qW {f:Nat->Rat}{c:Rat}:∀ {n:Nat},am (fun k=>f k*c) n=am f n*c
 |0=>by rw[am,am];grind
 |n+1=>by rw[am,am,qW];grind
theorem sG {f:Nat->Rat}:∀ {n:Nat},(∀k,k<n->f k=0)->am f n=0
 |0,_=>rfl
 |n+1,h=>by rw[am,sG fun k hk=>h k J,h n J];grind
theorem nr {f:Nat->Rat}:∀ {n i:Nat},(∀k,k<n->0<=f k)->i<n->f i<=am f n
 |0,_,_,hi=>by omega
 |n+1,i,h,hi=>by
  have h0:=il (f:=f) (n:=n) fun k hk=>h k J;rw[am];by_cases he:i=n
  .subst he;grind
  .have:=nr (f:=f) (n:=n) (i:=i) (fun k hk=>h k J) J;have:=h n J;grind
theorem Ey {f:Nat->Rat}{n:Nat}(h:0<am f n)(h0:∀k,k<n->0<=f k):∃k,k<n/\0<f k:=by
 by_cases hx:∃k,k<n/\0<f k
 .exact hx
 .have:am f n=0:=sG fun k hk=>by
   have h1:=h0 k hk;have h2:¬0<f k:=fun h=>hx ⟨k,hk,h⟩;grind
  rw[this]at h;exact absurd h aW
structure Crv (n:Nat) (S M:Nat->Rat):Prop where
 asc:∀k,k+1<n->S k<S (k+1)
 nn:∀k,k<n->0<=M k
def jF (n:Nat)(S M:Nat->Rat)(y:Rat):Rat:=am (fp S M y) n
def k8 (S M:Nat->Rat)(p:Nat):Rat:=am (fun k=>(M k-bU M k)*S k) p
def InL (n:Nat)(S:Nat->Rat)(p:Nat)(y:Rat):Prop:=p<=n/\(∀k,p=k+1->S k<y)/\(p<n->y<=S p)
def EV (n:Nat)(S:Nat->Rat)(p:Nat)(y:Rat):Prop:=p<=n/\(∀k,p=k+1->S k<=y)/\(p<n->y<=S p)
section
variable {n:Nat}{S M:Nat->Rat}{y:Rat}{p:Nat}
theorem InL.c (h:InL n S p y):EV n S p y:=⟨h.1,fun k hk=>by have:=h.2.1 k hk;grind,h.2.2⟩
theorem Crv.mono_st (h:Crv n S M):∀ {j i:Nat},i<=j->j<n->S i<=S j
 |0,i,h1,_=>by
  have:i=0:=J;subst this;exact du
 |j+1,i,h1,h2=>by
  by_cases he:i=j+1
  .subst he;exact du
  .have:=h.mono_st (j:=j) (i:=i) J J;have:=h.asc j J;grind
theorem InL.some (h:Crv n S M)(y:Rat):∀(m:Nat),m<=n->∃p,p<=m/\(∀k,p=k+1->S k<y)/\(p<m->y<=S p)
 |0,_=>⟨0,aH,fun k hk=>by omega,fun hk=>by omega⟩
 |m+1,hm=>by
  by_cases hy:S m<y
  .exact⟨m+1,aH,fun k hk=>by
    have:k=m:=J
    subst this;exact hy,fun hk=>by omega⟩
  .obtain⟨p,h1,h2,h3⟩:=InL.some h y m J;refine⟨p,J,h2,fun _=>?_⟩;by_cases hp:p<m
   .exact h3 hp
   .have:p=m:=J;subst this;grind
theorem InL.get (h:Crv n S M)(y:Rat):∃p,InL n S p y:=InL.some h y n (aH)
theorem sa:∀(p:Nat),am (fun k=>(M k-bU M k)*(y-S k)) p=bU M p*y-k8 S M p
 |0=>by rw[am,k8,am,bU];grind
 |p+1=>by rw[am,sa p,k8,k8,am,bU];grind
theorem og (h:Crv n S M)(hp:EV n S p y):jF n S M y=bU M p*y-k8 S M p:=by
 obtain⟨h1,h2,h3⟩:=hp;rw[<-sa,jF];have key:∀m,p+m<=n->am (fp S M y) (p+m)=am (fun k=>(M k-bU M k)*(y-S k)) p:=by
  intro m
  induction m with
  |zero =>
   intro _;refine dc fun k hk=>?_;have:S k<=y:=by
    cases p with
    |zero=>omega
    |succ p =>
     have:=h2 p O;have:=h.mono_st (i:=k) (j:=p) J J;grind
   rw[fp,if_neg aW]
  |succ m ih =>
   intro hm;rw[Nat.add_succ,am,ih J,fp];have h4:=h3 J;have h5:=h.mono_st (i:=p) (j:=p+m) J J;split
   .grind
   .have:y-S (p+m)=0:=aW;rw[this];grind
 have:=key (n-p) J;rwa [show p+(n-p)=n by omega]at this
theorem Cg (h:Crv n S M)(hp:p<=n):0<=bU M p:=by
 cases p with
 |zero=>rw[bU];exact du
 |succ p=>exact h.nn p J
theorem FW (x:Rat):0<=fX x:=by rw[fX];grind
theorem Bh {x z:Rat}(h:x<=z):fX x<=fX z:=by simp only[fX];grind
theorem In (h:Crv n S M):0<=jF n S M y:=by
 rw[jF,jA h.asc];refine il fun k hk=>?_;rw[iE];exact gF (h.nn k hk) (FW _)
theorem rh (h:Crv n S M){x z:Rat}(hx:x<=z):jF n S M x<=jF n S M z:=by
 rw[jF,jF,jA h.asc,jA h.asc];refine uD fun k hk=>?_;rw[iE,iE];refine y_ (Bh ?_) (h.nn k hk);have:xb S n x k<=xb S n z k:=by
  simp only[xb,tZ];grind
 grind
def rl (n:Nat)(S M:Nat->Rat):Rat:=k8 S M n*(-1)
theorem xi (h:Crv n S M)(hl:EV n S n y)(h0:bU M n=0):jF n S M y=rl n S M:=by
 rw[og h hl,h0,rl];grind
theorem BQ (h:Crv n S M)(hl:EV n S 0 y):jF n S M y=0:=by
 rw[og h hl,bU,k8,am];grind
end
structure Bd where
 N:Nat
 X:Nat->Rat
 C:Nat->Rat
 n:Nat->Nat
 S:Nat->Nat->Rat
 M:Nat->Nat->Rat
 w:Rat
 A:Rat
structure Bd.Ok (b:Bd):Prop where
 crv:∀i,i<b.N->Crv (b.n i) (b.S i) (b.M i)
 pos:0<b.w
namespace Bd
variable {b:Bd}
def y (b:Bd)(z t:Rat)(i:Nat):Rat:=b.C i+(z+t*b.X i)
def f (b:Bd)(z t:Rat)(i:Nat):Rat:=jF (b.n i) (b.S i) (b.M i) (b.y z t i)
def F (b:Bd)(z t:Rat):Rat:=am (b.f z t) b.N
def G0 (b:Bd)(z t:Rat):Rat:=am (fun i=>b.f z t i*b.X i) b.N
def e (b:Bd)(z t:Rat):Rat:=b.G0 z t-b.w*b.A
def Least (b:Bd)(z t:Rat):Prop:=b.F z t=b.w/\∀z',z'<z->b.F z' t<b.w
def Bal (b:Bd)(z t:Rat):Prop:=b.F z t=b.w/\b.G0 z t=b.w*b.A
theorem HO (h:b.Ok){z z' t:Rat}(hz:z<=z'){i:Nat}(hi:i<b.N):b.f z t i<=b.f z' t i:=rh (h.crv i hi) (by rw[y,y];grind)
theorem Ht (h:b.Ok){z z' t:Rat}(hz:z<=z'):b.F z t<=b.F z' t:=uD fun _ hi=>HO h hz hi
theorem IS (h:b.Ok){z t:Rat}{i:Nat}(hi:i<b.N):0<=b.f z t i:=In (h.crv i hi)
theorem EP (h:b.Ok)(z t z' t':Rat){i:Nat}(hi:i<b.N):0<=(b.f z t i-b.f z' t' i)*(b.y z t i-b.y z' t' i):=by
 have hc:=h.crv i hi;by_cases hy:b.y z t i<=b.y z' t' i
 .have h1:=rh hc hy;have:(b.f z t i-b.f z' t' i)*(b.y z t i-b.y z' t' i)=(b.f z' t' i-b.f z t i)*(b.y z' t' i-b.y z t i):=aW;rw[this];exact Rat.mul_nonneg (by rw[f,f];grind) aW
 .have h1:=rh hc (x:=b.y z' t' i) (z:=b.y z t i) aW;exact Rat.mul_nonneg (by rw[f,f];grind) aW
theorem GD (b:Bd)(z t z' t':Rat):am (fun i=>(b.f z t i-b.f z' t' i)*(b.y z t i-b.y z' t' i)) b.N=(b.F z t-b.F z' t')*(z-z')+(b.G0 z t-b.G0 z' t')*(t-t'):=by
 have key:∀n,am (fun i=>(b.f z t i-b.f z' t' i)*(b.y z t i-b.y z' t' i)) n=(am (b.f z t) n-am (b.f z' t') n)*(z-z')+(am (fun i=>b.f z t i*b.X i) n-am (fun i=>b.f z' t' i*b.X i) n)*(t-t'):=by
  intro n
  induction n with
  |zero=>simp only[am];grind
  |succ n ih =>
   simp only[am];rw[ih,y,y];grind
 exact key b.N
theorem wR (h:b.Ok){z t z' t':Rat}(hF:b.F z t=b.F z' t')(hG:b.G0 z t=b.G0 z' t'\/t=t'){i:Nat}(hi:i<b.N):b.f z t i=b.f z' t' i:=by
 have h0:am (fun i=>(b.f z t i-b.f z' t' i)*(b.y z t i-b.y z' t' i)) b.N=0:=by
  rw[GD,hF];rcases hG with hG|ht
  .rw[hG];grind
  .rw[ht];grind
 have h1:=nr (f:=fun i=>(b.f z t i-b.f z' t' i)*(b.y z t i-b.y z' t' i)) (n:=b.N) (i:=i) (fun k hk=>EP h z t z' t' hk) hi;rw[h0]at h1;have h2:=EP h z t z' t' hi;have h3:(b.f z t i-b.f z' t' i)*(b.y z t i-b.y z' t' i)=0:=aW;rcases Rat.mul_eq_zero.1 h3 with h4|h4
 .grind
 .rw[f,f,show b.y z t i=b.y z' t' i by grind]
theorem DZ (h:b.Ok){z t z':Rat}(hF:b.F z t=b.F z' t):b.G0 z t=b.G0 z' t:=dc fun i hi=>by rw[wR h hF (.inr O) hi]
def Inl (b:Bd)(p:Nat->Nat)(z t:Rat):Prop:=∀i,i<b.N->InL (b.n i) (b.S i) (p i) (b.y z t i)
def Inc (b:Bd)(p:Nat->Nat)(z t:Rat):Prop:=∀i,i<b.N->EV (b.n i) (b.S i) (p i) (b.y z t i)
def k (b:Bd)(p:Nat->Nat)(i:Nat):Rat:=bU (b.M i) (p i)
def o (b:Bd)(p:Nat->Nat)(i:Nat):Rat:=k8 (b.S i) (b.M i) (p i)
def Kh (b:Bd)(p:Nat->Nat):Rat:=am (b.k p) b.N
def Kc (b:Bd)(p:Nat->Nat):Rat:=am (fun i=>b.k p i*b.X i) b.N
def Kp (b:Bd)(p:Nat->Nat):Rat:=am (fun i=>b.k p i*b.X i*b.X i) b.N
def Fo (b:Bd)(p:Nat->Nat):Rat:=am (fun i=>b.k p i*b.C i-b.o p i) b.N
def Go (b:Bd)(p:Nat->Nat):Rat:=am (fun i=>(b.k p i*b.C i-b.o p i)*b.X i) b.N
theorem Inl.c {p:Nat->Nat}{z t:Rat}(h:b.Inl p z t):b.Inc p z t:=fun i hi=>(h i hi).c
theorem yZ (h:b.Ok)(z t:Rat):∃p,b.Inl p z t:=by
 have:=fun i=>cx (i<b.N);refine⟨fun i=>if hi:i<b.N then Classical.choose (InL.get (h.crv i hi) (b.y z t i)) else 0,fun i hi=>?_⟩;simp only[dif_pos hi];exact Classical.choose_spec (InL.get (h.crv i hi) (b.y z t i))
theorem f_at (h:b.Ok){p:Nat->Nat}{z t:Rat}(hp:b.Inc p z t){i:Nat}(hi:i<b.N):b.f z t i=b.k p i*b.y z t i-b.o p i:=og (h.crv i hi) (hp i hi)
theorem F_at (h:b.Ok){p:Nat->Nat}{z t:Rat}(hp:b.Inc p z t):b.F z t=b.Kh p*z+b.Kc p*t+b.Fo p:=by
 rw[F,dc (g:=fun i=>b.k p i*b.y z t i-b.o p i) fun i hi=>f_at h hp hi];have key:∀n,am (fun i=>b.k p i*b.y z t i-b.o p i) n=am (b.k p) n*z+am (fun i=>b.k p i*b.X i) n*t+am (fun i=>b.k p i*b.C i-b.o p i) n:=by
  intro n
  induction n with
  |zero=>simp only[am];grind
  |succ n ih=>simp only[am];rw[ih,y];grind
 exact key b.N
theorem G_at (h:b.Ok){p:Nat->Nat}{z t:Rat}(hp:b.Inc p z t):b.G0 z t=b.Kc p*z+b.Kp p*t+b.Go p:=by
 rw[G0,dc (g:=fun i=>(b.k p i*b.y z t i-b.o p i)*b.X i) fun i hi=>by rw[f_at h hp hi]];have key:∀n,am (fun i=>(b.k p i*b.y z t i-b.o p i)*b.X i) n=am (fun i=>b.k p i*b.X i) n*z+am (fun i=>b.k p i*b.X i*b.X i) n*t+am (fun i=>(b.k p i*b.C i-b.o p i)*b.X i) n:=by
  intro n
  induction n with
  |zero=>simp only[am];grind
  |succ n ih=>simp only[am];rw[ih,y];grind
 exact key b.N
theorem HT (h:b.Ok){p:Nat->Nat}{z t:Rat}(hp:b.Inc p z t){i:Nat}(hi:i<b.N):0<=b.k p i:=Cg (h.crv i hi) (hp i hi).1
theorem AP {p:Nat->Nat}{z t:Rat}(hp:b.Inl p z t):∃d,0<d/\∀d',0<=d'->d'<=d->b.Inl p (z-d') t:=by
 have key:∀m,m<=b.N->∃d:Rat,0<d/\∀d',0<=d'->d'<=d->∀i,i<m->InL (b.n i) (b.S i) (p i) (b.y (z-d') t i):=by
  intro m
  induction m with
  |zero=>exact fun _=>⟨1,Y,fun _ _ _ i hi=>by omega⟩
  |succ m ih =>
   intro hm;obtain⟨d,h1,h2⟩:=ih J;obtain⟨g1,g2,g3⟩:=hp m J;obtain⟨d2,h3,h4⟩:∃d2:Rat,0<d2/\∀k,p m=k+1->b.S m k<b.y z t m-d2:=by
    cases hpm:p m with
    |zero=>exact⟨1,Y,fun k hk=>by omega⟩
    |succ k =>
     have:=g2 k hpm;refine⟨(b.y z t m-b.S m k)/2,aW,fun k' hk'=>?_⟩;obtain rfl:k=k':=J;grind
   refine⟨tZ d d2,by rw[tZ];grind,fun d' h5 h6 i hi=>?_⟩;have h7:d'<=d/\d'<=d2:=by rw[tZ]at h6;grind
   by_cases he:i<m
   .exact h2 d' h5 h7.1 i he
   .obtain rfl:i=m:=J;have hy:b.y (z-d') t i=b.y z t i-d':=by rw[y,y];grind
    refine⟨g1,fun k hk=>?_,fun hk=>?_⟩
    .have:=h4 k hk;rw[hy];grind
    .have:=g3 hk;rw[hy];grind
 obtain⟨d,h1,h2⟩:=key b.N (aH);exact⟨d,h1,fun d' h3 h4 i hi=>h2 d' h3 h4 i hi⟩
theorem Least.K (h:b.Ok){p:Nat->Nat}{z t:Rat}(hl:b.Least z t)(hp:b.Inl p z t):0<b.Kh p:=by
 obtain⟨d,h1,h2⟩:=AP hp;have h3:=F_at h hp.c;have h4:=F_at h (h2 d aW du).c;have h5:=hl.2 (z-d) aW;rw[h4]at h5;rw[hl.1]at h3;have h6:0<b.Kh p*d:=aW;have h7:0<=b.Kh p:=il fun i hi=>HT h hp.c hi;by_cases h8:b.Kh p=0
 .rw[h8]at h6;grind
 .grind
theorem Least.uniq {z z' t:Rat}(h1:b.Least z t)(h2:b.Least z' t):z=z':=by
 rcases cx (z<z') with hc|hc
 .have:=h2.2 z hc;rw[h1.1]at this;grind
 .rcases cx (z'<z) with hd|hd
  .have:=h1.2 z' hd;rw[h2.1]at this;grind
  .grind
def ln (b:Bd)(p:Nat->Nat)(t:Rat):Rat:=(b.w-b.Fo p-b.Kc p*t)/b.Kh p
theorem ln_at (h:b.Ok){p:Nat->Nat}{z t:Rat}(hF:b.F z t=b.w)(hp:b.Inc p z t)(hK:0<b.Kh p):z=b.ln p t:=by
 have h1:=F_at h hp;rw[hF]at h1;have hne:b.Kh p≠0:=aW;rw[ln];grind
theorem E3 (h:b.Ok){p:Nat->Nat}{t:Rat}(hp:b.Inc p (b.ln p t) t)(hK:0<b.Kh p):b.F (b.ln p t) t=b.w:=by
 have hne:b.Kh p≠0:=aW;rw[F_at h hp,ln];grind
def eln (b:Bd)(p:Nat->Nat)(t:Rat):Rat:=b.Kc p*b.ln p t+b.Kp p*t+b.Go p-b.w*b.A
theorem CA (h:b.Ok){p:Nat->Nat}{t:Rat}(hp:b.Inc p (b.ln p t) t):b.e (b.ln p t) t=b.eln p t:=by rw[e,G_at h hp,eln]
end Bd
structure CR where
 S:List Int
 M:List RR
structure SR where
 x:Int
 c:RR
 k:CR
structure BR where
 w:Int
 a:RR
 l:List SR
def eN (z:Int):List PV:=[I z]
def eC (c:CR):List PV:=[.sl (c.S.map eN),.sl (c.M.map eR)]
def eS (s:SR):List PV:=I s.x::(eR s.c++eC s.k)
def eB (b:BR):List PV:=I b.w::(eR b.a++[.sl (b.l.map eS)])
def RR.sz (x:RR)(n:Nat):Prop:=x.n.l.length<=n/\x.d.l.length<=n
theorem RR.sz.v {x:RR}{n:Nat}(h:x.sz n):Vq x x.val n:=Vq.raw h.1 h.2
def i64 (z:Int):Prop := -9223372036854775808<=z/\z<=9223372036854775807
structure CR.Lim (c:CR):Prop where
 s:∀z∈c.S,i64 z
 m:∀x∈c.M,x.sz 12
 ls:c.S.length<=1000000000
 lm:c.M.length<=1000000000
theorem dU (p:Rat):sgn p<0↔p<0:=by unfold sgn;split<;>(try split)<;>simp_all<;>omega
theorem l_ (p:Rat):sgn p=0↔p=0:=by
 unfold sgn;split
 .rename_i h;constructor
  .intro h1;omega
  .intro h1;subst h1;grind
 .split<;>simp_all
theorem kf (p:Rat):0<sgn p↔0<p:=by
 unfold sgn;split
 .rename_i h;constructor
  .intro h1;omega
  .intro h1;grind
 .rename_i h;split
  .rename_i h1;subst h1;simp
  .constructor
   .intro _;grind
   .intro _;omega
theorem Ea (p:Rat):0<=sgn p↔0<=p:=by
 have h1:=dU p;constructor
 .intro h;have:¬p<0:=fun h2=>by have:=h1.2 h2;omega
  grind
 .intro h;have:¬sgn p<0:=fun h2=>by have:=h1.1 h2;grind
  omega
theorem Eb (p:Rat):sgn p<=0↔p<=0:=by
 have h1:=kf p;constructor
 .intro h;have:¬0<p:=fun h2=>by have:=h1.2 h2;omega
  grind
 .intro h;have:¬0<sgn p:=fun h2=>by have:=h1.1 h2;grind
  omega
def ly (c:CR)(i:Nat):Int :=
 if c.S.getD i 0 < -10000000\/10000000<c.S.getD i 0\/(c.M.getD i RR.zero).val<0 then 2
 else if 0<i/\c.S.getD i 0<=c.S.getD (i-1) 0 then 10 else 0
def lG (c:CR):Nat->Nat->Int
 |_,0=>0
 |i,k+1=>if ly c i=0 then lG c (i+1) k else ly c i
def eG (c:CR):Int:=if 40<c.S.length then 8 else if c.M.length≠c.S.length then 11 else lG c 0 c.S.length
theorem br {α:Type}{l:List α}{i:Nat}{d:α}(h:i<l.length):l[i]?=some (l.getD i d):=by
 rw[cH,aQ h];rfl
theorem fv (c:CR)(hc:c.Lim):bb 254 [.agg (eC c)] (I (eG c)):=by
 obtain⟨S,M⟩:=c;obtain⟨hs,hm,hls,hlm⟩:=hc;simp only at hs hm hls hlm;have hSl:(S.map eN).length=S.length:=aj;have hMl:(M.map eR).length=M.length:=aj;generalize hE:eG ⟨S,M⟩=E;simp only[eG]at hE;show bb 254 [.agg [.sl (S.map eN),.sl (M.map eR)]] (I E);refine ay Proofs.Tryz.func254 ?_;refine D ?_ ?_<;>intro h
 .have h1:=bK h;rw[if_pos J]at hE;subst hE;exact dL
 have h40:¬40<S.length:=by have h1:=cJ h;omega
 rw[if_neg h40]at hE;clear h;refine D ?_ ?_<;>intro h
 .have h1:M.length≠S.length:=by simp at h;omega
  rw[if_pos h1]at hE;subst hE;exact dL
 have hSM:M.length=S.length:=by simp at h;omega
 rw[if_neg J]at hE;clear h;refine H ?_;refine ao (fun i:Nat=>i<=S.length/\lG ⟨S,M⟩ i (S.length-i)=E) (fun i=>[(17,.sl (S.map eN)),(18,I S.length),(19,I (i:Nat)),(1,.ptr 1 1 0 0)]) (fun _=>[(1,1,⟨194,2,[[.sl (S.map eN),.sl (M.map eR)]],2⟩)]) (fun i=>S.length-i) 0 ⟨aF _,hE⟩ ⟨O,by rw[<-hSl];rfl,ak⟩ ?_;intro i s ⟨hi,hF⟩;refine D ?_ ?_<;>intro h
 .have hlt:i<S.length:=cP h;clear h;obtain⟨k,hk⟩:∃k,S.length-i=k+1:=⟨S.length-i-1,J⟩;rw[hk,lG]at hF;have hx:=br (d:=0) hlt;have hmx:=br (l:=M) (i:=i) (d:=RR.zero) J;have hse:ly ⟨S,M⟩ i=ly ⟨S,M⟩ i:=O
  conv at hse=>rhs;rw[ly]
  simp only at hse;generalize ly ⟨S,M⟩ i=se at *
  have hxb:=hs _ (bG hx);have hmv:=(hm _ (bG hmx)).v;have hsg:=Hl (M.getD i RR.zero) (hx:=hmv) Y;have hsl:=dU (M.getD i RR.zero).val;generalize hx0:S.getD i 0=x at *
  generalize M.getD i RR.zero=m at *
  generalize sgn m.val=sg at *
  refine aZ hx ?_;refine fZ ?_ ?_<;>intro h
  .have h1:=bK h;clear h;have hS2:se=2:=by rw[hse,if_pos (.inl h1)]
   rw[hS2,if_neg Y]at hF;subst hF;exact dL
  .have h1:=cJ h;clear h;refine fZ ?_ ?_<;>intro h
   .have h2:=bK h;clear h;have hS2:se=2:=by rw[hse,if_pos (.inr (.inl h2))]
    rw[hS2,if_neg Y]at hF;subst hF;exact dL
   .have h2:=cJ h;clear h;refine aZ hmx ?_;refine aB hsg ?_;refine D ?_ ?_<;>intro h
    .have h3:=bK h;clear h;have hS2:se=2:=by rw[hse,if_pos (.inr (.inr (hsl.1 h3)))]
     rw[hS2,if_neg Y]at hF;subst hF;exact dL
    .have h3:=cJ h;clear h;rw[if_neg (by rw[<-hsl];omega)]at hse;refine fZ ?_ ?_<;>intro h
     .have h4:=bK h;clear h;obtain⟨j,rfl⟩:∃j,i=j+1:=⟨i-1,J⟩;have hw1:IntKind.i64.wrap (((j+1:Nat):Int)-1)=((j:Nat):Int):=by rw[wrap_i64 J J];omega
      have hy:=br (l:=S) (i:=j) (d:=0) J;rw[show j+1-1=j by omega]at hse;generalize S.getD j 0=y at *
      refine H ?_;rw[hw1];refine Gb O O O O O O O hy O ?_;refine D ?_ ?_<;>intro h
      .have h5:=bK h;clear h;have hS2:se=10:=by rw[hse,if_pos ⟨J,h5⟩]
       rw[hS2,if_neg Y]at hF;subst hF;exact dL
      .have h5:=cJ h;clear h;have hS2:se=0:=by rw[hse,if_neg (fun h=>h5 h.2)]
       rw[if_pos hS2]at hF;have hw:IntKind.i64.wrap (((j+1:Nat):Int)+1)=((j+1+1:Nat):Int):=by rw[wrap_i64 J J];omega
       refine H ?_;exact⟨j+1+1,⟨J,by rw[show S.length-(j+1+1)=k by omega];exact hF⟩,J,O,O,congrArg I hw,ak⟩
     .have h4:=cJ h;clear h;have hS2:se=0:=by rw[hse,if_neg (fun h=>h4 J)]
      rw[if_pos hS2]at hF;have hw:=im i;refine H ?_;exact⟨i+1,⟨J,by rw[show S.length-(i+1)=k by omega];exact hF⟩,J,O,O,congrArg I hw,ak⟩
 .have hie:i=S.length:=cG h;rw[hie,fU,lG]at hF;subst hF;exact dL
end Go.Pv
namespace Go.Pv
open Go.RowKit
variable [Globs]
def rJ:List (Tmp × PV)->(Nat->PV)->Nat->PV
 |[],f=>f
 |(p,v)::l,f=>rJ l fun r=>bif Nat.beq r p then v else f r
theorem rK {E:Env}:∀(ps:List Tmp) (cs:List PV) (vs:List Value) (f:Nat->PV) (tmps:Array Value),ps.length=cs.length->cs.length=vs.length->(∀p∈ps,p<tmps.size)->(∀t,Rep E (f t) (tmps.getD t undef)) ->
  (∀(i:Nat) (c:PV) (v:Value),cs[i]?=some c->vs[i]?=some v->Rep E c v) ->
  ((ps.zip vs).foldl (fun t q=>t.setIfInBounds q.1 q.2) tmps).size=tmps.size/\∀t,Rep E (rJ (ps.zip cs) f t) (((ps.zip vs).foldl (fun t q=>t.setIfInBounds q.1 q.2) tmps).getD t undef)
 |[],[],[],f,tmps,_,_,_,hf,_=>⟨rfl,hf⟩
 |p::ps,c::cs,v::vs,f,tmps,h1,h2,hp,hf,hd=>by
  have hp0:p<tmps.size:=hp p (.head _);have ih:=rK ps cs vs (fun r=>bif Nat.beq r p then c else f r) (tmps.setIfInBounds p v) (by simpa using h1) (by simpa using h2) (fun q hq=>by simpa using hp q (.tail _ hq)) (fun t=>by
   by_cases ht:t=p
   .subst ht;have e1:(tmps.setIfInBounds t v).getD t undef=v:=by simp[hp0]
    rw[e1];simpa using hd 0 c v O O
   .have e1:(tmps.setIfInBounds p v).getD t undef=tmps.getD t undef:=by simp[y7 (Ne.symm ht)]
    rw[e1,bR ht]
    exact hf t) (fun i c' v' e1 e2=>hd (i+1) c' v' (by simpa using e1) (by simpa using e2))
  refine⟨?_,fun t=>?_⟩
  .rw[o8,iz,ih.1];simp
  .rw[o8,o8,iz];exact ih.2 t
 |[],_::_,_,_,_,h,_,_,_,_=>by simp at h
 |[],[],_::_,_,_,_,h,_,_,_=>by simp at h
 |_::_,[],_,_,_,h,_,_,_,_=>by simp at h
 |_::_,_::_,[],_,_,_,h,_,_,_=>by simp at h
def cz (ps:Array Tmp)(asg body:Code)(st:LoopState)(pend:Option Code)(regs:Nat->PV):Cont:=⟨0,0,[[.lbl ps asg body st pend regs]],4⟩
def At (s:St)(kL g:Nat)(ps:Array Tmp)(asg body:Code)(regs:Nat->PV)(d:Nat)(K:St->Prop):Exit->St->Prop
 |.normal,s'=>s'.own kL=(g,some (cz ps asg body .busy none regs))/\K (({ reg:=s.reg,own:=(s'.setOwn kL g (some (cz ps asg body .ready none regs))).own }:St).putR d (.bool true))
 |.exit id,s'=>s'.own kL=(g,some (cz ps asg body .busy none regs))/\K (({ reg:=s.reg,own:=(s'.setOwn kL g (some (cz ps asg body .done (some (.exit id)) regs))).own }:St).putR d (.bool false))
 |.ret,s'=>s'.own kL=(g,some (cz ps asg body .busy none regs))/\K (({ reg:=s.reg,own:=(s'.setOwn kL g (some (cz ps asg body .done (some .ret) regs))).own }:St).putR d (.bool false))
 |_,_=>False
def nC (s:St)(kL g:Nat)(ps:Array Tmp)(asg body:Code)(Q:Exit->St->Prop):Exit->St->Prop
 |.normal,s' | .ret,s'=>(s'.own kL=(g,some (cz ps asg body .ready none s.reg))/\Q .normal { reg:=s.reg,own:=(s'.setOwn kL (g+1) none).own }) \/
   (∃id,s'.own kL=(g,some (cz ps asg body .done (some (.exit id)) s.reg))/\Q (.exit id) { reg:=s.reg,own:=(s'.setOwn kL (g+1) none).own }) \/
   (s'.own kL=(g,some (cz ps asg body .done (some .ret) s.reg))/\Q .ret { reg:=s.reg,own:=(s'.setOwn kL (g+1) none).own })
 |_,_=>False
section
variable {P:Program}{L:b9}{C:Ctx}{γ:Nat->Option Nat}{s:St}{a:Act}{w:World}
theorem Sim.yl_at (_h:Sim C γ s a w){k g:Nat}{c:Cont}{v:Value}(hr:Rep (ai C γ s w) (.yl k g) v)(ho:s.own k=(g,some c)):∃b,γ k=some b/\v=.func (.yield b) #[] #[]:=by
 cases hr with
 |d h=>cases h
 |yl hg hl=>exact(hl (by simp[ai,ho]) ⟨γ k,c.ty,c.sz,c.rows.length⟩ (by simp[ai,ho])).2
theorem Sim.turnLoop {s':St}{a':Act}{w3:World}{C2:Ctx}{γ':Nat->Option Nat}(hs':Sim C2 γ' s' a' w3){kL g b:Nat}{ps:Array Tmp}{asg body:Code}{regs:Nat->PV}{st:LoopState}{pend:Option Code}(ho:s'.own kL=(g,some (cz ps asg body st pend regs)))(hb:γ' kL=some b) :
  ∃rec:Loop,w3.heap[b]?=some (.loop rec)/\rec.state=st/\rec.pending=pend/\∀(st2:LoopState) (pend2:Option Code),Sim C2 γ' (s'.setOwn kL g (some (cz ps asg body st2 pend2 regs))) a' (w3.putObj b (.loop { rec with state:=st2,pending:=pend2 })):=by
 have hit:=(hs'.sites kL _ (by rw[ho])).it b hb O (show(3:Nat)<=4 by decide);obtain⟨rec,regs',h1,h2,h3',h3,h4,h5⟩:pN (ai C2 γ' s' w3) b (cz ps asg body st pend regs).rows:=hit;have h1:w3.heap[b]?=some (.loop rec):=h1;simp only[cz,List.cons.injEq,PV.lbl.injEq,and_true]at h2;obtain⟨e1,e2,e3,e4,e5,e6⟩:=h2;subst e6;refine⟨rec,h1,e4.symm,e5.symm,fun st2 pend2=>?_⟩;obtain⟨hp,hnew⟩:=pw (o' := .loop { rec with state:=st2,pending:=pend2 }) h1;have hnc:∀cur T f,w3.heap[b]? ≠ some (.cells cur T f):=fun cur T f e=>by rw[h1]at e;cases e
 have hle:=ui (c':=cz ps asg body st2 pend2 regs) hs' ho hb hnc hp O O (aH);refine pz hs' ho hb hnc hp O O (aH) ⟨(fun e=>by cases e),(fun b' _ _ hk=>by simp[cz]at hk),fun b' hb' _ _=>?_,(fun b' _ hz=>by simp[cz]at hz)⟩;cases hb';show pN _ _ _;exact⟨{ rec with state:=st2,pending:=pend2 },regs,hnew,by simp[cz,<-e1,<-e2,<-e3],h3',h3,h4,fun t=>(h5 t).mono hle⟩
theorem Ek {o:Oper}{args:Array Operand}{tys:Array TypeId}{tf d kL g:Nat}{ps:Array Tmp}{asg body:Code}{regs:Nat->PV}{K:St->Prop}(ho:o.op=.call ⟨.value (.tmp tf),args,tys⟩)(hd:o.dst=some d)(hy:s.reg tf=.yl kL g)
  (hown:s.own kL=(g,some (cz ps asg body .ready none regs))) (hps:args.size=ps.size)
  (h:PWP P L asg (XThen (fun s2=>s2.own kL=(g,some (cz ps asg body .ready none regs))/\PWP P L body (At s kL g ps asg body regs d K) { reg:=s2.reg,own:=(s2.setOwn kL g (some (cz ps asg body .busy none regs))).own }) (fun _ _=>False)) { reg:=rJ (ps.toList.zip (args.toList.map s.ev)) regs,own:=s.own }):Jt P L s o K:=by
 intro ro n C a w Q hG ⟨γ,hs⟩ hN hQ;have hyr:=hs.ev (.tmp tf);rw[show s.ev (.tmp tf) = .yl kL g from hy]at hyr;obtain⟨b,hb,hv⟩:=hs.yl_at hyr hown;have hit:=(hs.sites kL _ (by rw[hown])).it b hb O (show(3:Nat)<=4 by decide);obtain⟨rec,regs',h1,h2,h3',h3,h4,h5⟩:pN (ai C γ s w) b (cz ps asg body .ready none regs).rows:=hit;have h1:w.heap[b]?=some (.loop rec):=h1;simp only[cz,List.cons.injEq,PV.lbl.injEq,and_true]at h2;obtain⟨e1,e2,e3,e4,e5,e6⟩:=h2;subst e6;refine⟨fun _ _=>trivial,?_⟩;have hexec:(o.semAt (Fr ro).round a.eval).run P w=.ok (.round b rec.fn ((rec.params.zip (args.map a.eval)).foldl (fun tmps (t,a)=>tmps.setIfInBounds t a) rec.tmps) rec.assign rec.body) w:=by
  rw[Oper.semAt_eq _ _ _ (fun c e=>by rw[ho]at e;cases e)];simp only[execOp,ho,resolve,hv,Deferred.ofValue,Sem.run_bind,Sem.run_pure,Result.andThen_ok,invoke];rw[show(#[]++args.map a.eval:Array Value)=args.map a.eval by simp];exact run_yield h1 (by rw[<-e1];simpa using hps)
 rw[hexec,Oper.uponIn_round];refine⟨fun e=>by simp[Fr,Fence.wide]at e,?_⟩;refine roundIn_of_wpIn trivial ?_;rw[<-e2,<-e3];rw[<-e2]at h3';rw[<-e3]at h3;let C2:Ctx:=⟨C.B,C.X,C.w0,rec.tmps.size,fun c v=>C.keep c v\/∃t,c=s.reg t/\v=a.tmps.getD t undef,[]⟩;have hG2:Good P L C2:=⟨hG.lay,hG.x,hG.mixed,hG.glob⟩;have hfold:(rec.params.zip (args.map a.eval)).foldl (fun tmps (t,a)=>tmps.setIfInBounds t a) rec.tmps=(ps.toList.zip (args.toList.map a.eval)).foldl (fun t q=>t.setIfInBounds q.1 q.2) rec.tmps:=by
  rw[<-e1,<-Array.foldl_toList,Array.toList_zip,tJ]
 obtain⟨b1,b2⟩:=rK (E:=ai C γ s w) ps.toList (args.toList.map s.ev) (args.toList.map a.eval) regs rec.tmps (by simpa using hps.symm) aj
  (fun p hp=>by rw[e1]at hp;simpa using bx.1 h4 p hp) (fun t=>h5 t) (fun i c v q1 q2=>by
   rw[aV]at q1 q2;cases hx:args.toList[i]? with
   |none=>rw[hx]at q1;simp at q1
   |some x=>rw[hx]at q1 q2;simp at q1 q2;subst q1;subst q2;exact hs.ev x)
 rw[hfold];have hsim2:SimE C2 { reg:=rJ (ps.toList.zip (args.toList.map s.ev)) regs,own:=s.own } { tmps:=(ps.toList.zip (args.toList.map a.eval)).foldl (fun t q=>t.setIfInBounds q.1 q.2) rec.tmps,defers:=[] } w:=by
  refine⟨γ,O,b1,b2,hs.sites,hs.inj,hs.base,hs.below,hs.top,?_⟩;rintro c v (hk|⟨t,rfl,rfl⟩)
  .exact hs.kept c v hk
  .exact hs.regs t
 rw[CM];refine wpIn_mono (PWP.soundX (X:=fun A B=>A=B) (fun _=>rfl) (fun h k=>h.trans k) (fun h=>by subst h;exact .refl _) (r:=false) (fun h=>by cases h) asg _ C2 _ _ _ hG2 h3' (fun _ hq=>hq) hsim2 h) ?_;rintro e aA wA ⟨C',sA,rfl,⟨γA,hsA⟩,hq⟩;have he:e=.normal:=by
  cases e
  case normal=>rfl
  all_goals exact absurd hq id
 subst he;obtain⟨hownA,hbodyA⟩:=hq;show ∃w₂,_;have hkyA:=hsA.kept (.yl kL g) (.func (.yield b) #[] #[]) (.inr ⟨tf,hy.symm,hv.symm⟩);obtain⟨bA,hbA,hvA⟩:=hsA.yl_at hkyA hownA;have hbb:b=bA:=by injection hvA with q;injection q with q
 subst hbb;obtain⟨rec2,r1,r2,r3,r4⟩:=hsA.turnLoop hownA hbA;have hs1:=r4 .busy none;have hw2:wA.putObj b (.loop { rec2 with state := .busy,pending:=none })=wA.putObj b (.loop { rec2 with state := .busy }):=by
  have:({ rec2 with state := .busy,pending:=none }:Loop)={ rec2 with state := .busy }:=by rw[<-r3]
  rw[this]
 rw[hw2]at hs1;refine⟨_,run_beginRound r1 r2,?_⟩;have hsimB:SimE C2 { reg:=sA.reg,own:=(sA.setOwn kL g (some (cz ps asg body .busy none regs))).own } aA (wA.putObj b (.loop { rec2 with state := .busy })):=⟨γA,hs1⟩;refine wpIn_mono (PWP.soundX (X:=fun A B=>A=B) (fun _=>rfl) (fun h k=>h.trans k) (fun h=>by subst h;exact .refl _) (r:=false) (fun h=>by cases h) body _ C2 _ _ _ hG2 h3 (fun _ hq=>hq) hsimB hbodyA) ?_
 have fin:∀ {s':St} {a':Act} {w3:World} (jump:Option Code) (st:LoopState),st=(if jump.isNone then .ready else .done)->SimE C2 s' a' w3->s'.own kL=(g,some (cz ps asg body .busy none regs)) ->
   K (({ reg:=s.reg,own:=(s'.setOwn kL g (some (cz ps asg body st jump regs))).own }:St).putR d (.bool jump.isNone)) ->
   ∃v w4,(Instr.endRound b jump).run P w3=.ok v w4/\∃s'',SimE C s'' (a.put o.dst v) w4/\K s'':=by
  rintro s' a' w3 jump st rfl ⟨γ',hs'⟩ hown' hk;have hky:=hs'.kept (.yl kL g) (.func (.yield b) #[] #[]) (.inr ⟨tf,hy.symm,hv.symm⟩);obtain⟨b',hb',hvb⟩:=hs'.yl_at hky hown';have hbb:b'=b:=by injection hvb with q;injection q with q;exact q.symm
  subst hbb;obtain⟨rec3,q1,q2,q3,q4⟩:=hs'.turnLoop hown' hb';have hs4:=q4 (if jump.isNone then .ready else .done) jump;refine⟨_,_,run_endRound jump q1,_,⟨γ',?_⟩,hk⟩;have hback:Sim C γ' { reg:=s.reg,own:=(s'.setOwn kL g (some (cz ps asg body (if jump.isNone then .ready else .done) jump regs))).own } a (w3.putObj b' (.loop { rec3 with state:=if jump.isNone then .ready else .done,pending:=jump })) :=
   ⟨hs.defers,hs.size,fun r=>hs4.kept _ _ (.inr ⟨r,O,O⟩),hs4.sites,hs4.inj,hs4.base,hs4.below,hs4.top,fun c v hk=>hs4.kept c v (.inl hk)⟩
  rw[hd];rw[hd]at hN;exact hback.put (d:=some d) hN (.d (.bool _))
 rintro e a' w3 ⟨C',s',rfl,h',hq⟩;cases e
 case normal=>exact fin none .ready O h' hq.1 hq.2
 case ret=>exact fin (some .ret) .done O h' hq.1 hq.2
 case exit id=>exact fin (some (.exit id)) .done O h' hq.1 hq.2
 all_goals exact hq.elim
theorem wG {Q:Exit->St->Prop}{g:Operand}{ps:Array Tmp}{assign body:Code}(h:xq P L g ps assign body Q s):PWP P L (.rangeFunc g ps assign body) Q s:=Gh.of h
theorem ss {Q:Exit->St->Prop}{g:Operand}{gf:FuncId}{caps:List PV}{fn:Func}{bodyI:Code}{ps:Array Tmp}{asg body:Code}(kL:Nat){gn:Nat}{oc:Option Cont}(hg:s.ev g=.clo gf caps)(hf:P.funcs[gf]?=some fn)(hb:fn.body=some bodyI)
  (hn : (fn.name == "runtime.NumGoroutine") = false) (hlen : Nat.ble (1 + caps.length) fn.ntmps = true) (hc : jP fn.ntmps bodyI = true) (hres : fn.results = #[]) (hown : s.own kL = (gn, oc))
  (h:PWP P L bodyI (nC s kL (gn+1) ps asg body Q) { reg:=fun t=>((.yl kL (gn+1))::caps).getD t (.raw undef),own:=(s.setOwn kL (gn+1) (some (cz ps asg body .ready none s.reg))).own }):xq P L g ps asg body Q s:=by
 intro n C a w hG ⟨γ,hs⟩ hcode hQ;simp only[gx,jd,bj]at hcode;obtain⟨⟨hpsN,hasg⟩,hbody⟩:=hcode;refine wpIn_rangeFunc fun fnid _=>?_;have hge:=hs.ev g;rw[hg]at hge;obtain⟨vs,hv,hl,hd⟩:=hge.clo_inv;have hcal:f_ P gf:=⟨fn,hf,hn,by simp[hb]⟩;obtain⟨rec,hrec⟩:∃rec:Loop,rec={ state := .ready,pending:=none,fn:=fnid,tmps:=a.tmps,params:=ps,assign:=asg,body:=body,defers:=w.heap.size }:=⟨_,O⟩;refine⟨w.heap.size+1,[xV w.heap.size],(w.alloc (.deferred (some []))).alloc (.loop rec),{ target := .fn (.func gf) vs.toArray,args:=#[.func (.yield (w.heap.size+1)) #[] #[]] },(w.alloc (.deferred (some []))).alloc (.loop rec),gf,
  #[Value.func (.yield (w.heap.size+1)) #[] #[]]++vs.toArray,(w.alloc (.deferred (some []))).alloc (.loop rec),by rw[hrec];exact run_enterLoop_outer _ _ _ _ _,?_,fun _ _=>trivial,?_,fun e=>by simp[Fr,Fence.wide]at e,?_⟩
 .simp only[resolve,hv];simp[go_sem]
 .simp only[invoke];exact nh hcal _
 refine callsIn_of_wp hf hb trivial ?_;have hbel:Below w.heap.size w (w.alloc (.deferred (some []))):=(Below.refl _ w).alloc (aH) _;have hD:=hs.ext hbel;have hsz:(w.alloc (.deferred (some []))).heap.size=w.heap.size+1:=aj;have hT:Turn C γ s (w.alloc (.deferred (some []))) ((w.alloc (.deferred (some []))).alloc (.loop rec)) kL (some (w.alloc (.deferred (some []))).heap.size):=Turn.alloc _ kL;have hle:=hT.le hD (cz ps asg body .ready none s.reg);have hfin:s.fin kL (cz ps asg body .ready none s.reg)=s.setOwn kL (gn+1) (some (cz ps asg body .ready none s.reg)):=by rw[St.fin,hown]
 have hs1:=hT.sim (c:=cz ps asg body .ready none s.reg) hD ⟨(fun e=>by cases e),(fun b' _ _ hk=>by simp[cz]at hk),fun b' hb' _ _=>by
  cases hb';show pN _ _ _;refine⟨rec,s.reg,bi _ _,by rw[hrec];rfl,by rw[hrec];simpa [hs.size] using hasg,by rw[hrec];simpa [hs.size] using hbody,by rw[hrec];simpa [hs.size] using hpsN,fun t=>?_⟩
  rw[show rec.tmps=a.tmps by rw[hrec]];exact(hD.regs t).mono hle,(fun b' _ hz=>by simp[cz]at hz)⟩
 rw[hfin,hsz]at hs1;rw[hfin,hsz]at hle;have hDobj:((w.alloc (.deferred (some []))).alloc (.loop rec)).heap[w.heap.size]?=some (.deferred (some [])):=by
  rw[Below.heap_alloc _ _ _ aj];exact bi w _
 have hDok:fu C (iV γ kL (some (w.heap.size+1))) (s.setOwn kL (gn+1) (some (cz ps asg body .ready none s.reg))) ((w.alloc (.deferred (some []))).alloc (.loop rec)) w.heap.size:=by
  refine⟨by simp;omega,fun hx=>?_,fun k c hk hb'=>?_⟩
  .have:=hG.x _ hx;have:=hs.top;omega
  .by_cases hkk:k=kL
   .subst hkk;rw[bZ]at hb';injection hb' with q;omega
   .rw[ar hkk]at hk;rw[gw hkk]at hb';have:=(hs.base k c _ hk hb').2;omega
 let C1:Ctx:=⟨C.B,C.X,C.w0,fn.ntmps,fun c v=>C.keep c v\/(∃t,c=s.reg t/\v=a.tmps.getD t undef)\/(c=.dfd/\v=.pointer (some ⟨w.heap.size,0,none⟩))\/(c=.yl kL (gn+1)/\v=.func (.yield (w.heap.size+1)) #[] #[]),[]⟩;have hG1:Good P L C1:=⟨hG.lay,hG.x,hG.mixed,hG.glob⟩;have hyl:Rep (ai C (iV γ kL (some (w.heap.size+1))) (s.setOwn kL (gn+1) (some (cz ps asg body .ready none s.reg))) ((w.alloc (.deferred (some []))).alloc (.loop rec))) (.yl kL (gn+1)) (.func (.yield (w.heap.size+1)) #[] #[]):=by
  refine .yl (by simp[ai,ah]) fun _ l hl=>?_;simp only[ai,ah,bZ,ca,aJ]at hl;subst hl;exact⟨O,_,O,O⟩
 have hlen':1+vs.length<=fn.ntmps:=by rw[<-hl];simpa using hlen
 have hargs:∀t,Rep (ai C (iV γ kL (some (w.heap.size+1))) (s.setOwn kL (gn+1) (some (cz ps asg body .ready none s.reg))) ((w.alloc (.deferred (some []))).alloc (.loop rec))) (((.yl kL (gn+1))::caps).getD t (.raw undef))
   ((#[Value.func (.yield (w.heap.size+1)) #[] #[]]++vs.toArray++Array.replicate (fn.ntmps-(#[Value.func (.yield (w.heap.size+1)) #[] #[]]++vs.toArray).size) undef).getD t undef):=by
  intro t;cases t with
  |zero =>
   have e2:(#[Value.func (.yield (w.heap.size+1)) #[] #[]]++vs.toArray++Array.replicate (fn.ntmps-(#[Value.func (.yield (w.heap.size+1)) #[] #[]]++vs.toArray).size) undef).getD 0 undef=Value.func (.yield (w.heap.size+1)) #[] #[]:=by
    simp[Array.getElem?_append]
   rw[e2];exact hyl
  |succ t =>
   rcases aT t vs.length with hlt|hge
   .have hlt':t<caps.length:=J;have e1:((PV.yl kL (gn+1))::caps).getD (t+1) (.raw undef)=caps[t]:=by simp[hlt']
    have e2:(#[Value.func (.yield (w.heap.size+1)) #[] #[]]++vs.toArray++Array.replicate (fn.ntmps-(#[Value.func (.yield (w.heap.size+1)) #[] #[]]++vs.toArray).size) undef).getD (t+1) undef=vs[t]:=by
     rw[ip,qo aX,nN aj];simp[hlt]
    rw[e1,e2];exact(hd t caps[t] vs[t] (aQ hlt') (aQ hlt)).mono ((gJ hbel hs.base).trans' hle)
   .have e1:((PV.yl kL (gn+1))::caps).getD (t+1) (.raw undef) = .raw undef:=by simp[dF (by omega:caps.length<=t)]
    have e2:(#[Value.func (.yield (w.heap.size+1)) #[] #[]]++vs.toArray++Array.replicate (fn.ntmps-(#[Value.func (.yield (w.heap.size+1)) #[] #[]]++vs.toArray).size) undef).getD (t+1) undef=undef:=by
     rw[ip,nN aX];rcases aT (t+1-(#[Value.func (.yield (w.heap.size+1)) #[] #[]]++vs.toArray).size) (fn.ntmps-(#[Value.func (.yield (w.heap.size+1)) #[] #[]]++vs.toArray).size) with h1|h1
     .rw[mH,if_pos h1];rfl
     .rw[j0 (by simpa using h1)];rfl
    rw[e1,e2];exact .d (.raw _)
 have hsim:SimE C1 { reg:=fun t=>((.yl kL (gn+1))::caps).getD t (.raw undef),own:=(s.setOwn kL (gn+1) (some (cz ps asg body .ready none s.reg))).own }
   { tmps:=#[Value.func (.yield (w.heap.size+1)) #[] #[]]++vs.toArray++Array.replicate (fn.ntmps-(#[Value.func (.yield (w.heap.size+1)) #[] #[]]++vs.toArray).size) undef,defers:=[] } ((w.alloc (.deferred (some []))).alloc (.loop rec)):=by
  refine⟨iV γ kL (some (w.heap.size+1)),O,by simp[C1];omega,hargs,hs1.sites,hs1.inj,hs1.base,hs1.below,hs1.top,?_⟩;rintro c v (hk|⟨t,rfl,rfl⟩|⟨rfl,rfl⟩|⟨rfl,rfl⟩)
  .exact hs1.kept c v hk
  .exact hs1.regs t
  .exact .dfd hDok hDobj
  .exact hyl
 refine wpIn_mono (PWP.soundX (X:=fun A B=>A=B) (fun _=>rfl) (fun h k=>h.trans k) (fun h=>by subst h;exact .refl _) (r:=false) (fun h=>by cases h) bodyI _ C1 _ _ _ hG1 hc (fun _ hq=>hq) hsim h) ?_
 have fin:∀ {s':St} {a':Act} {w3:World} (pend:Option Code) (st:LoopState),st ≠ .busy->SimE C1 s' a' w3->s'.own kL=(gn+1,some (cz ps asg body st pend s.reg)) ->
   ∃w4,(Instr.endLoop (w.heap.size+1)).run P w3=.ok pend w4/\∃C4,Ext C C4/\SimE C4 { reg:=s.reg,own:=(s'.setOwn kL (gn+1+1) none).own } { a with defers:=[xV w.heap.size]++a.defers } w4:=by
  rintro s' a' w3 pend st hst ⟨γ',hs'⟩ hown';have hky:=hs'.kept (.yl kL (gn+1)) (.func (.yield (w.heap.size+1)) #[] #[]) (.inr (.inr (.inr ⟨O,O⟩)));obtain⟨b',hb',hvb⟩:=hs'.yl_at hky hown';have hbb:b'=w.heap.size+1:=by injection hvb with q;injection q with q;exact q.symm
  subst hbb;obtain⟨rec3,q1,q2,q3,q4⟩:=hs'.turnLoop hown' hb';have hs4:=q4 .exhausted pend;have hw4:w3.putObj (w.heap.size+1) (.loop { rec3 with state := .exhausted,pending:=pend })=w3.putObj (w.heap.size+1) (.loop { rec3 with state := .exhausted }):=by
   have:({ rec3 with state := .exhausted,pending:=pend }:Loop)={ rec3 with state := .exhausted }:=by rw[<-q3]
   rw[this]
  rw[hw4]at hs4;refine⟨_,by rw[<-q3];exact run_endLoop q1 (by rw[q2];exact hst),?_⟩;obtain⟨hs5,_,_⟩:=hs4.drop hG1.x (ah s' kL (gn+1) _);have hoo:((s'.setOwn kL (gn+1) (some (cz ps asg body .exhausted pend s.reg))).setOwn kL (gn+1+1) none).own=(s'.setOwn kL (gn+1+1) none).own:=by
   funext r;by_cases hr:r=kL
   .subst hr;rw[ah,ah]
   .rw[ar hr,ar hr,ar hr]
  have key:∀ow,ow=(s'.setOwn kL (gn+1+1) none).own->Sim C1 γ' { reg:=s'.reg,own:=ow } a' (w3.putObj (w.heap.size+1) (.loop { rec3 with state := .exhausted })) ->
    ∃C4,Ext C C4/\SimE C4 { reg:=s.reg,own:=(s'.setOwn kL (gn+1+1) none).own } { a with defers:=[xV w.heap.size]++a.defers } (w3.putObj (w.heap.size+1) (.loop { rec3 with state := .exhausted })):=by
   rintro ow rfl hs6;refine⟨⟨C.B,C.X,C.w0,C.N,fun c v=>C.keep c v\/(c=.dfd/\v=.pointer (some ⟨w.heap.size,0,none⟩)),w.heap.size::C.dfs⟩,⟨O,O,O,O,fun c v hk => .inl hk,fun hdk=>⟨?_,?_⟩⟩,γ',?_,hs.size,fun r=>hs6.kept _ _ (.inr (.inl ⟨r,O,O⟩)),hs6.sites,hs6.inj,hs6.base,hs6.below,hs6.top,?_⟩
   .rw[kC];refine⟨fun hm=>?_,hdk.1⟩;have:=hs.kept _ _ (hdk.2 _ hm).2;cases this with
    |d hd=>cases hd
    |dfd h1 _=>exact absurd h1.1 (Nat.lt_irrefl _)
   .intro D0 hDm;rcases cw.1 hDm with rfl|hDm
    .exact⟨hs.top,.inr ⟨O,O⟩⟩
    .exact⟨(hdk.2 D0 hDm).1,.inl (hdk.2 D0 hDm).2⟩
   .show [xV w.heap.size]++a.defers=_;rw[hs.defers];rfl
   .rintro c v (hk|⟨rfl,rfl⟩)
    .exact hs6.kept c v (.inl hk)
    .exact hs6.kept _ _ (.inr (.inr (.inl ⟨O,O⟩)))
  exact key _ hoo hs5
 have ends:∀ {s':St} {a':Act} {w3:World},SimE C1 s' a' w3->nC s kL (gn+1) ps asg body Q .ret s'->a'.defers=[]/\∃v,(results fn a'.tmps).run P w3=.ok v w3 /\
   rangePost (Fr none) n P (w.heap.size+1) (EY Ext C Q) { a with defers:=[xV w.heap.size]++a.defers } (.returned v) w3:=by
  intro s' a' w3 h' hq;refine⟨by obtain⟨_,h'⟩:=h';exact h'.defers,.tuple #[],by simp[results,hres],?_⟩;rcases hq with⟨ho,hq⟩|⟨id,ho,hq⟩|⟨ho,hq⟩
  .obtain⟨w4,e1,C4,e2,e3⟩:=fin none .ready aj h' ho;exact⟨none,w4,e1,C4,_,e2,e3,hq⟩
  .obtain⟨w4,e1,C4,e2,e3⟩:=fin (some (.exit id)) .done aj h' ho;exact⟨some (.exit id),w4,e1,wpIn_exit ⟨C4,_,e2,e3,hq⟩⟩
  .obtain⟨w4,e1,C4,e2,e3⟩:=fin (some .ret) .done aj h' ho;exact⟨some .ret,w4,e1,wpIn_ret ⟨C4,_,e2,e3,hq⟩⟩
 rintro e a' w3 ⟨C',s',rfl,h',hq⟩;cases e
 case normal=>exact ends h' hq
 case ret=>exact ends h' hq
 all_goals exact hq.elim
end
end Go.Pv
set_option maxHeartbeats 2000000
namespace Go.Pv
attribute [local irreducible] PWP POps PQuiet PSem XThen XBlock RetPost InlPost
open Go.Proofs
def CR.s (c:CR)(k:Nat):Rat:=(c.S.getD k 0:Int)
def CR.m (c:CR)(k:Nat):Rat:=(c.M.getD k RR.zero).val
def E_ (c:CR):Nat->RR
 |0=>ofQ ((0:Int):Rat)
 |k+1=>c.M.getD k RR.zero
theorem vY (c:CR)(hc:c.Lim)(k:Nat):Vq (c.M.getD k RR.zero) (c.m k) 12:=by
 refine⟨O,?_⟩;rw[cH];cases h:c.M[k]? with
 |none=>exact⟨aF _,aF _⟩
 |some x=>exact hc.m x (bG h)
theorem rI (c:CR)(hc:c.Lim)(k:Nat):Vq (E_ c k) (bU c.m k) 12:=by
 cases k with
 |zero =>
  refine⟨ofQ_val _,?_⟩;have:=(lj (HQ.int (z:=0) (h:=⟨Y⟩)).ok).ok;show(ofQ ((0:Int):Rat)).n.l.length<=12/\(ofQ ((0:Int):Rat)).d.l.length<=12;exact⟨by have:=this.1;omega,by have:=this.2;omega⟩
 |succ k=>exact vY c hc k
theorem oF {c:CR}(hc:c.Lim)(k:Nat):i64 (c.S.getD k 0):=by
 rw[cH];cases h:c.S[k]? with
 |none=>exact⟨Y,Y⟩
 |some x=>exact hc.s x (bG h)
def Hh (q0 q2 q3 g4 g7 b4:Nat)(rec x2 x3 x1004:Cont)(before sum:RR):List (Nat × Nat × Cont) :=
 [(2000,q0,rec),(2002,q2,x2),(2003,q3,x3),(4,b4,⟨41,4,[eR before],2⟩),(1004,g4,x1004),(1007,g7,⟨41,4,[eR sum],2⟩)]
theorem jW {s:St}(k:Nat):Ghost s (s.setOwn k ((s.own k).1+2) none):=Ghost.drop O
theorem td {L:b9}{fn:Func}{K:St->PV->Prop}{s:St}{t:Nat}{v:PV}(h:fn.results.toList=[.tmp t])(h1:s.reg t=v)(hk:K s v):InlPost L fn K .ret s:=by
 unfold InlPost;refine⟨[s.reg t],True/\True,by rw[h];rfl,⟨trivial,bP⟩,?_⟩;rw[h1];exact hk
theorem cA {P:Program}{L:b9}{x:Code}{Q:Exit->St->Prop}{s:St}(R:List (Nat × PV))(O0:List (Nat × Nat × Cont))(hf:Fit s R O0)(h:∀s1:St,PWP P L x Q (s1.over R O0)):PWP P L x Q s:=by
 have:=h s;rwa [Fit.over hf]at this
theorem qI {Q:Exit->St->Prop}{a b:Nat}{asg body:Code}{sc:St}(c:CR)(hc:c.Lim)(y:RR){q:Rat}{n:Nat}(hy:Vq y q n)(hn:n<=9000000)(hSM:c.M.length=c.S.length)(V:Nat->RR){q0 q2 q3 g4 g7:Nat}{x1004:Cont}(s0:St)
  (hown:Fit s0 [] [(2000,q0,cz #[a,b] asg body .ready none sc.reg),(2002,q2,⟨194,2,[eC c],2⟩),(2003,q3,⟨41,4,[eR y],2⟩),(1004,g4,x1004),(1007,g7,⟨41,4,[eR (V 0)],2⟩)])
  (hround:∀i,i<c.S.length->¬q-c.s i<0->∀(b4:Nat) (bf:RR) (own:Nat->Nat × Option Cont),Fit { reg:=fun _ => .raw undef,own:=own } [] (Hh q0 q2 q3 g4 g7 b4 (cz #[a,b] asg body .ready none sc.reg) ⟨194,2,[eC c],2⟩ ⟨41,4,[eR y],2⟩ x1004 bf (V i)) ->
   ∀pO:Exit->St->Prop,(∀s2,Fit s2 [] (Hh q0 q2 q3 g4 g7 b4 (cz #[a,b] asg body .busy none sc.reg) ⟨194,2,[eC c],2⟩ ⟨41,4,[eR y],2⟩ x1004 bf (V (i+1)))->pO .normal s2) ->
   PWP Tryz.prog lay.get asg (XThen (fun s2=>s2.own 2000=(q0,some (cz #[a,b] asg body .ready none sc.reg))/\PWP Tryz.prog lay.get body pO { reg:=s2.reg,own:=(s2.setOwn 2000 q0 (some (cz #[a,b] asg body .busy none sc.reg))).own }) (fun _ _=>False))
    { reg:=rJ [(a,.agg (eR (ofQ (c.m i-bU c.m i)))),(b,.agg (eR (ofQ (q-c.s i))))] sc.reg,own:=own })
  (hend:∀i,i<=c.S.length->(i=c.S.length\/(i<c.S.length/\q-c.s i<0))->∀(b4:Nat) (bf:RR) (s2:St),Fit s2 [] (Hh q0 q2 q3 g4 g7 b4 (cz #[a,b] asg body .ready none sc.reg) ⟨194,2,[eC c],2⟩ ⟨41,4,[eR y],2⟩ x1004 bf (V i)) ->
   Q .normal { reg:=sc.reg,own:=(s2.setOwn 2000 (q0+1) none).own }) :
  PWP Tryz.prog lay.get ((Tryz.f315.body).getD .skip) (nC sc 2000 q0 #[a,b] asg body Q) { reg:=fun t=>[PV.yl 2000 q0,.ptr 2002 q2 0 0,.ptr 2003 q3 0 0].getD t (.raw undef),own:=s0.own }:=by
 have hz:=fV 0 Y Y;have hSl:(c.S.map eN).length=c.S.length:=aj;rw[<-Fit.over (l:=[]) hown];generalize hrd:cz #[a,b] asg body .ready none sc.reg=rd at *
 refine G hz ?_;refine H ?_;refine ao (fun k:Nat × Nat × RR=>k.1<=c.S.length/\k.2.2=E_ c k.1) (fun k=>[(0,.yl 2000 q0),(1,.ptr 2002 q2 0 0),(2,.ptr 2003 q3 0 0),(4,.ptr 4 k.2.1 0 0),(10,.sl (c.S.map eN)),(11,I c.S.length),(12,I (k.1:Nat))])
  (fun k=>Hh q0 q2 q3 g4 g7 k.2.1 rd ⟨194,2,[eC c],2⟩ ⟨41,4,[eR y],2⟩ x1004 k.2.2 (V k.1)) (fun k=>c.S.length-k.1) (0,_,E_ c 0) ⟨aF _,O⟩ ⟨O,O,O,O,O,by rw[<-hSl];rfl,ak⟩ ?_
 rintro⟨i,b4,bf⟩ st ⟨hi,hbf⟩;simp only at hi hbf;subst hbf;dsimp only;refine D ?_ ?_<;>intro h
 .have hlt:i<c.S.length:=cP h;clear h;have hx:=br (d:=0) hlt;have hxb:=oF hc i;have hnum:=fV (c.S.getD i 0) hxb.1 hxb.2;have hzb:Zb (c.S.getD i 0):=aL hxb.1 hxb.2;have hsub:=mc y (ofQ ((c.S.getD i 0:Int):Rat)) (hx:=hy) J Y;have hfar:Vq (ofQ (q-((c.S.getD i 0:Int):Rat))) (q-c.s i) (n+1+4+1):=Vq.ofQ (h:=@HQ.sub _ _ (n+1) 4 hy.hq HQ.int);have hsg:=Hl (ofQ (q-((c.S.getD i 0:Int):Rat))) (hx:=hfar) J;have hsl:=dU (q-c.s i);have hw:IntKind.i64.wrap (((i:Nat):Int)+1)=((i+1:Nat):Int):=by
   have:=c.S.length;rw[wrap_i64 J (by have:=hc.ls;omega)];omega
  refine aZ hx ?_;refine dN 4 ?_;refine ax (jW 7) ?_;refine cp [(4,7),(5,7)] aN aN ?_;refine G hnum ?_;refine G hsub ?_;refine H ?_;refine DE 13 [21,22,23,24,25,26,27,28,29,30,31,32,33] aN ?_;refine aB hsg ?_;refine fZ ?_ ?_<;>intro h
  .have hneg:q-c.s i<0:=hsl.1 (bK h);clear h;refine H ?_;refine sn ?_;refine H ?_;refine .inl ⟨by rw[<-hrd];rfl,?_⟩;exact hend i J (.inr ⟨hlt,hneg⟩) b4 _ _ ⟨O,O,O,O,O,O,bP⟩
  .have hpos:¬q-c.s i<0:=fun h2=>(cJ h) (hsl.2 h2);clear h;have hmx:=br (l:=c.M) (i:=i) (d:=RR.zero) J;have hmv:=vY c hc i;have hbv:=rI c hc i;have hsub2:=mc (c.M.getD i RR.zero) (E_ c i) (hx:=hmv) (hy:=hbv) Y Y;refine aZ hmx ?_;refine G hsub2 ?_;refine H ?_;refine Bj O O O (Ek (ps:=#[a,b]) (asg:=asg) (body:=body) (regs:=sc.reg) O O O (by rw[hrd];rfl) O ?_);rw[hrd];refine hround i hlt hpos b4 (E_ c i) _ (by exact⟨O,O,O,O,O,O,bP⟩) _ (fun s2 hf=>?_);rw[<-Fit.over (l:=[]) hf];refine⟨O,?_⟩;refine sn ?_;refine aZ hmx ?_;refine H ?_;exact⟨(i+1,b4,E_ c (i+1)),⟨by simp only;omega,O⟩,by simp only;omega,O,O,O,O,O,O,congrArg I hw,by rw[<-hrd];rfl,ak⟩
 .have hie:i=c.S.length:=cG h;clear h;refine H ?_;refine .inl ⟨by rw[<-hrd];rfl,?_⟩;exact hend i J (.inl hie) b4 _ _ ⟨O,O,O,O,O,O,bP⟩
def ou:Code->Option (Array Tmp × Code × Code)
 |.rangeFunc _ ps a b=>some (ps,a,b)
 |.seq x y=>match ou x with|some r=>some r|none=>ou y
 |.block _ c=>ou c
 |.loop c=>ou c
 |.cond _ x y=>match ou x with|some r=>some r|none=>ou y
 |_=>none
theorem qB {c:CR}(hc:c.Lim)(k:Nat):HQ (c.m k-bU c.m k) 27:=@HQ.sub _ _ 13 13 (vY c hc k).hq (rI c hc k).hq
theorem DI {c:CR}(hc:c.Lim){q:Rat}{n:Nat}(h:HQ q n)(k:Nat):HQ (q-c.s k) (n+5):=by
 have hb:=oF hc k;have hzb:Zb (c.S.getD k 0):=aL hb.1 hb.2;exact @HQ.sub _ _ n 4 h HQ.int
theorem zU {c:CR}(hc:c.Lim){q:Rat}{n:Nat}(h:HQ q n)(k:Nat):HQ (fp c.s c.m q k) (n+32):=by
 rw[fp];split
 .exact HQ.zero.mono J
 .exact(@HQ.mul _ _ 27 (n+5) (qB hc k) (DI hc h k)).mono J
theorem sq {c:CR}(ha:∀k,k+1<c.S.length->c.s k<c.s (k+1)){f:Nat->Rat}{q:Rat}(hf:∀k,q-c.s k<0->f k=0){i:Nat}(hi:i<=c.S.length)(h:i=c.S.length\/(i<c.S.length/\q-c.s i<0)):am f i=am f c.S.length:=by
 rcases h with h|⟨h1,h2⟩
 .rw[h]
 .have key:∀m,i+m<=c.S.length->am f (i+m)=am f i/\(i+m<c.S.length->q-c.s (i+m)<0):=by
   intro m
   induction m with
   |zero=>intro _;exact⟨rfl,fun _=>h2⟩
   |succ m ih =>
    intro hm;obtain⟨e1,e2⟩:=ih J;have h3:=e2 J;refine⟨by rw[Nat.add_succ,am,e1,hf _ h3];grind,fun hl=>?_⟩;have h4:=ha (i+m) J;rw[show i+(m+1)=i+m+1 by omega];grind
  have:=(key (c.S.length-i) J).1;rw[show i+(c.S.length-i)=c.S.length by omega]at this;exact this.symm
theorem rP {c:CR}:∀(k i:Nat),lG c i k=0->∀j,i<=j->j<i+k->ly c j=0
 |0,i,_,j,h1,h2=>by omega
 |k+1,i,h,j,h1,h2=>by
  rw[lG]at h;by_cases hs:ly c i=0
  .rw[if_pos hs]at h;by_cases hj:j=i
   .subst hj;exact hs
   .exact rP k (i+1) h j J J
  .rw[if_neg hs]at h;exact absurd h hs
theorem fx {c:CR}(h:eG c=0):c.S.length<=40/\c.M.length=c.S.length/\(∀k,k<c.S.length -> -10000000<=c.S.getD k 0/\c.S.getD k 0<=10000000/\0<=c.m k)/\∀k,k+1<c.S.length->c.s k<c.s (k+1):=by
 rw[eG]at h;split at h
 .omega
 .rename_i h1;split at h
  .omega
  .rename_i h2;have hs:=rP _ _ h;refine⟨J,J,fun k hk=>?_,fun k hk=>?_⟩
   .have:=hs k J J;rw[ly]at this;split at this
    .omega
    .rename_i h3;refine⟨J,J,?_⟩;rw[CR.m];have:¬(c.M.getD k RR.zero).val<0:=fun h=>h3 (.inr (.inr h));grind
   .have:=hs (k+1) J J;rw[ly]at this;split at this
    .omega
    .split at this
     .omega
     .rename_i h4;have h5:c.S.getD k 0<c.S.getD (k+1) 0:=by
       rw[show k+1-1=k by omega]at h4;omega
      rw[CR.s,CR.s]
      exact_mod_cast h5
theorem Ay {c:CR}(h:eG c=0):Crv c.S.length c.s c.m:=⟨(fx h).2.2.2,fun k hk=>((fx h).2.2.1 k hk).2.2⟩
noncomputable def It:Array Tmp × Code × Code:=(ou ((Tryz.f267.body).getD .skip)).getD (#[],.skip,.skip)
def zV (P:Program)(sc:St)(q0 q2 q3 g4 g7 b4:Nat)(pa pb:Nat)(asg body:Code)(x2 x3 x1004:Cont)(bf V0 V1 CH FA:RR):Prop :=
 ∀own:Nat->Nat × Option Cont,Fit { reg:=fun _ => .raw undef,own:=own } [] (Hh q0 q2 q3 g4 g7 b4 (cz #[pa,pb] asg body .ready none sc.reg) x2 x3 x1004 bf V0) ->
  ∀pO:Exit->St->Prop,(∀s2,Fit s2 [] (Hh q0 q2 q3 g4 g7 b4 (cz #[pa,pb] asg body .busy none sc.reg) x2 x3 x1004 bf V1)->pO .normal s2) ->
  PWP P lay.get asg (XThen (fun s2=>s2.own 2000=(q0,some (cz #[pa,pb] asg body .ready none sc.reg))/\PWP P lay.get body pO { reg:=s2.reg,own:=(s2.setOwn 2000 q0 (some (cz #[pa,pb] asg body .busy none sc.reg))).own }) (fun _ _=>False))
   { reg:=rJ [(pa,.agg (eR CH)),(pb,.agg (eR FA))] sc.reg,own:=own }
theorem xj {s0:St}{q0 q2 q3 g4 g7 b4:Nat}{x2 x3 x1004:Cont}{bf V0 V1 CH FA PR:RR}(hmul:bb 78 [.agg (eR CH),.agg (eR FA)] (.agg (eR PR)))(hadd:bb 74 [.agg (eR V0),.agg (eR PR)] (.agg (eR V1))) :
  zV Tryz.prog (s0.over [(7,.ptr 1007 g7 0 0)] []) q0 q2 q3 g4 g7 b4 20 21 It.2.1 It.2.2 x2 x3 x1004 bf V0 V1 CH FA:=by
 intro own hf pO hPost;have ho:own=(St.over { reg:=fun _ => .raw undef,own:=own } [] (Hh q0 q2 q3 g4 g7 b4 (cz #[20,21] It.2.1 It.2.2 .ready none (s0.over [(7,.ptr 1007 g7 0 0)] []).reg) x2 x3 x1004 bf V0)).own:=congrArg St.own (Fit.over hf).symm;rw[ho];clear ho hf;generalize (St.mk (fun _ => .raw undef) own)=s1;refine H ?_;refine⟨O,?_⟩;refine dg 5 [22,23,24,25,26] ?_;refine G hmul ?_;refine G hadd ?_;refine H ?_;exact hPost _ ⟨O,O,O,O,O,O,bP⟩
theorem BS (c:CR)(hc:c.Lim)(h0:eG c=0)(y:RR){q:Rat}{n:Nat}[hy:Vq y q n](hn:n<=100000):bb 267 [.agg (eC c),.agg (eR y)] (.tup [.agg (eR (ofQ (jF c.S.length c.s c.m q))),I 0]):=by
 have hcc:=fv c hc;rw[h0]at hcc;obtain⟨h40,hSM,-,hasc⟩:=fx h0;have hz:=fV 0 Y Y;rw[show(((0:Int):Rat))=0 from O]at hz;have hsum:∀i,i<=40->Vq (ofQ (am (fp c.s c.m q) i)) (am (fp c.s c.m q) i) (i*(n+1+32+1)+4):=fun i _=>Vq.ofQ (h:=bw i fun k _=>zU hc hy.hq k);refine Ret.of_pwpR dY mixed Go.Proofs.Tryz.func267 O Y O O O ?_;refine aB hcc ?_;refine G hz ?_;refine dN 5 ?_;refine ax (Ghost.move (k:=2) (k':=1002) (t:=2) O O O O) ?_;refine ax (Ghost.move (k:=3) (k':=1003) (t:=3) O O O O) ?_;refine ax (Ghost.move (k:=4) (k':=1004) (t:=4) O O O O) ?_;refine ax (Ghost.move (k:=7) (k':=1007) (t:=7) O O O O) ?_
 (refine dN 5 ?_;refine aD 2 ?_)
 iterate 2 refine g_ O ?_
 refine bg ?_;refine aU O (cB dY O O Go.Proofs.Tryz.func307 O Y O O ?_);refine dN 1 ?_;refine ax (Ghost.move (k:=2) (k':=2002) (t:=2) O O O O) ?_;refine ax (Ghost.move (k:=3) (k':=2003) (t:=3) O O O O) ?_;refine H ?_;refine td O O ?_;refine aE ?_;refine H ?_;refine cA [(7,.ptr 1007 1 0 0),(4,.ptr 1004 1 0 0),(19,.clo 315 [.ptr 2002 1 0 0,.ptr 2003 1 0 0])] [(2002,1,⟨194,2,[eC c],2⟩),(2003,1,⟨41,4,[eR y],2⟩),(1004,1,⟨41,4,[[.bool false,.nil,.bool false,.nil]],2⟩),(1007,1,⟨41,4,[eR (ofQ 0)],2⟩)] ak ?_;intro s3;refine wG (ss (ps:=#[20,21]) (asg:=It.2.1) (body:=It.2.2) 2000 O Go.Proofs.Tryz.func315 O O O O O O ?_);generalize hq0:(s3.own 2000).1+1=q0;refine qI (q:=q) (n:=n) (q0:=q0) (q2:=1) (q3:=1) (g4:=1) (g7:=1) c hc y hy J hSM (fun i=>ofQ (am (fp c.s c.m q) i)) _ ⟨by rw[<-hq0];rfl,O,O,O,O,bP⟩ ?_ ?_
 .intro i hi hpos b4 bf;have hmul:=gu (ofQ (c.m i-bU c.m i)) (ofQ (q-c.s i)) (hx:=Vq.ofQ (h:=qB hc i)) (hy:=Vq.ofQ (h:=DI hc hy.hq i)) Y J;have hadd:=dh (ofQ (am (fp c.s c.m q) i)) (ofQ ((c.m i-bU c.m i)*(q-c.s i))) (hx:=hsum i J) (hy:=Vq.ofQ (h:=@HQ.mul _ _ 27 (n+1+5) (qB hc i) (DI hc hy.hq i))) (by have:=dr (show i<=40 by omega) (show n+1+32+1<=100034 by omega);omega) J;rw[show am (fp c.s c.m q) i+(c.m i-bU c.m i)*(q-c.s i)=am (fp c.s c.m q) (i+1) by rw[am,fp,if_neg hpos]]at hadd;exact xj (s0:=s3.over [(4,.ptr 1004 1 0 0),(19,.clo 315 [.ptr 2002 1 0 0,.ptr 2003 1 0 0])] []) hmul hadd
 .intro i hi hor b4 bf s2 hf;have hres:am (fp c.s c.m q) i=jF c.S.length c.s c.m q:=sq hasc (fun k hk=>by rw[fp,if_pos hk]) hi hor;dsimp only at hf;rw[hres]at hf;rw[<-Fit.over (l:=[]) hf];exact cy
namespace Bd
variable {b:Bd}
def gr (b:Bd)(p:Nat->Nat)(i:Nat):Rat:=b.X i-b.Kc p/b.Kh p
theorem GL {p:Nat->Nat}(hK:b.Kh p≠0)(t t':Rat)(i:Nat):b.y (b.ln p t') t' i=b.y (b.ln p t) t i+b.gr p i*(t'-t):=by
 rw[y,y,ln,ln,gr];grind
def Cross (b:Bd)(p:Nat->Nat)(t:Rat):Prop:=∃i,i<b.N/\∃k,k<b.n i/\b.y (b.ln p t) t i=b.S i k/\b.gr p i≠0
def det (b:Bd)(p:Nat->Nat):Rat:=b.Kh p*b.Kp p-b.Kc p*b.Kc p
def Tm (b:Bd)(t:Rat):Prop:=∃p:Nat->Nat,(∀i,i<b.N->p i<=b.n i)/\b.Kh p≠0/\(b.Cross p t\/(b.eln p t=0/\b.det p≠0))
theorem FT {n:Nat}{S:Nat->Rat}{p:Nat}{y0 y1:Rat}(h:EV n S p y0):∃s:Rat,0<=s/\s<=1/\(∀s',0<=s'->s'<=s->EV n S p (y0+s'*(y1-y0)))/\(s=1\/∃k,k<n/\y0+s*(y1-y0)=S k/\y1≠y0):=by
 obtain⟨h1,h2,h3⟩:=h;by_cases hu:p<n/\S p<y1
 .have h4:=h3 hu.1;have hd:0<y1-y0:=aW;have hne:y1-y0≠0:=aW;have hs:(S p-y0)/(y1-y0)*(y1-y0)=S p-y0:=jn hne;refine⟨(S p-y0)/(y1-y0),?_,?_,fun s' g1 g2=>⟨h1,fun k hk=>?_,fun _=>?_⟩,.inr ⟨p,hu.1,aW,aW⟩⟩
  .rw[kJ];exact gF aW (e_ (pq.2 hd))
  .by_cases hc:(S p-y0)/(y1-y0)<=1
   .exact hc
   .have:=Rat.mul_pos (show 0<(S p-y0)/(y1-y0)-1 by grind) hd;grind
  .have:=h2 k hk;have:=gF g1 (e_ hd);grind
  .have:=Rat.mul_nonneg (show 0<=(S p-y0)/(y1-y0)-s' by grind) (Rat.le_of_lt hd);grind
 .by_cases hl:∃k,p=k+1/\y1<S k
  .obtain⟨k,rfl,hk⟩:=hl;have h4:=h2 k O;have hd:0<y0-y1:=aW;have hne:y0-y1≠0:=aW;have hs:(y0-S k)/(y0-y1)*(y0-y1)=y0-S k:=jn hne;refine⟨(y0-S k)/(y0-y1),?_,?_,fun s' g1 g2=>⟨h1,fun k' hk'=>?_,fun hn=>?_⟩,.inr ⟨k,J,aW,aW⟩⟩
   .rw[kJ];exact gF aW (e_ (pq.2 hd))
   .by_cases hc:(y0-S k)/(y0-y1)<=1
    .exact hc
    .have:=Rat.mul_pos (show 0<(y0-S k)/(y0-y1)-1 by grind) hd;grind
   .obtain rfl:k=k':=J;have:=Rat.mul_nonneg (show 0<=(y0-S k)/(y0-y1)-s' by grind) (Rat.le_of_lt hd);grind
   .have:=h3 hn;have:=gF g1 (e_ hd);grind
  .refine⟨1,Y,du,fun s' g1 g2=>⟨h1,fun k hk=>?_,fun hn=>?_⟩,.inl O⟩
   .have h4:=h2 k hk;have h5:¬y1<S k:=fun hh=>hl ⟨k,hk,hh⟩;have h6:=Rat.mul_nonneg g1 (show 0<=y1-S k by grind);have h7:=Rat.mul_nonneg (show 0<=1-s' by grind) (show 0<=y0-S k by grind);grind
   .have h4:=h3 hn;have h5:¬S p<y1:=fun hh=>hu ⟨hn,hh⟩;have h6:=Rat.mul_nonneg g1 (show 0<=S p-y1 by grind);have h7:=Rat.mul_nonneg (show 0<=1-s' by grind) (show 0<=S p-y0 by grind);grind
theorem JS {p:Nat->Nat}{t0:Rat}(hK:b.Kh p≠0)(h0:b.Inc p (b.ln p t0) t0)(t1:Rat) :
  ∃s:Rat,0<=s/\s<=1/\(∀s',0<=s'->s'<=s->b.Inc p (b.ln p (t0+s'*(t1-t0))) (t0+s'*(t1-t0)))/\(s=1\/b.Cross p (t0+s*(t1-t0))):=by
 have hy:∀s i,b.y (b.ln p (t0+s*(t1-t0))) (t0+s*(t1-t0)) i=b.y (b.ln p t0) t0 i+s*(b.y (b.ln p t1) t1 i-b.y (b.ln p t0) t0 i):=by
  intro s i;rw[GL hK t0 (t0+s*(t1-t0)),GL hK t0 t1];grind
 have key:∀m,m<=b.N->∃s:Rat,0<=s/\s<=1/\(∀s',0<=s'->s'<=s->∀i,i<m->EV (b.n i) (b.S i) (p i) (b.y (b.ln p (t0+s'*(t1-t0))) (t0+s'*(t1-t0)) i))/\(s=1\/b.Cross p (t0+s*(t1-t0))):=by
  intro m
  induction m with
  |zero=>exact fun _=>⟨1,Y,du,fun _ _ _ i hi=>by omega,.inl rfl⟩
  |succ m ih =>
   intro hm;obtain⟨s,g1,g2,g3,g4⟩:=ih J;obtain⟨s2,k1,k2,k3,k4⟩:=FT (y1:=b.y (b.ln p t1) t1 m) (h0 m J);by_cases hs:s<=s2
   .refine⟨s,g1,g2,fun s' q1 q2 i hi=>?_,g4⟩;by_cases he:i<m
    .exact g3 s' q1 q2 i he
    .obtain rfl:i=m:=J;rw[hy];exact k3 s' q1 aW
   .refine⟨s2,k1,k2,fun s' q1 q2 i hi=>?_,?_⟩
    .by_cases he:i<m
     .exact g3 s' q1 aW i he
     .obtain rfl:i=m:=J;rw[hy];exact k3 s' q1 q2
    .rcases k4 with k4|⟨k,q1,q2,q3⟩
     .exact .inl k4
     .refine .inr ⟨m,J,k,q1,by rw[hy];exact q2,fun hg=>?_⟩;have:=GL hK t0 t1 m;rw[hg]at this;exact q3 aW
 exact key b.N (aH)
theorem p7 {p:Nat->Nat}(hK:b.Kh p≠0)(t t':Rat):(b.eln p t'-b.eln p t)*b.Kh p=b.det p*(t'-t):=by
 rw[eln,eln,ln,ln,det];grind
theorem Aq {p:Nat->Nat}(hK:0<b.Kh p){t0 t1:Rat}(h0:b.eln p t0<0)(h1:0<=b.eln p t1):∃s:Rat,0<s/\s<=1/\b.eln p (t0+s*(t1-t0))=0/\b.det p≠0:=by
 have hne:b.Kh p≠0:=aW;have hl:=p7 hne t0 t1;have hd:0<b.eln p t1-b.eln p t0:=aW;have hd':b.eln p t1-b.eln p t0≠0:=aW;have hdet:b.det p≠0:=by
  intro h;rw[h]at hl;have:=Rat.mul_pos hd hK;grind
 have hs:(-b.eln p t0)/(b.eln p t1-b.eln p t0)*(b.eln p t1-b.eln p t0) = -b.eln p t0:=jn hd';generalize (-b.eln p t0)/(b.eln p t1-b.eln p t0)=s at *
 refine⟨s,?_,?_,?_,hdet⟩
 .by_cases hc:0<s
  .exact hc
  .have:=Rat.mul_nonneg (show 0 <= -s by grind) (Rat.le_of_lt hd);grind
 .by_cases hc:s<=1
  .exact hc
  .have:=Rat.mul_pos (show 0<s-1 by grind) hd;grind
 .have h2:=p7 hne t0 (t0+s*(t1-t0));have h3:(b.eln p (t0+s*(t1-t0))-b.eln p t0-s*(b.eln p t1-b.eln p t0))*b.Kh p=0:=aW;rcases Rat.mul_eq_zero.1 h3 with h4|h4
  .grind
  .exact absurd h4 hne
theorem CS (h:b.Ok){lo hi zl zh:Rat}(hlt:lo<hi)(ll:b.Least zl lo)(lh:b.Least zh hi)(el:b.e zl lo<0)(eh:0<b.e zh hi)
  (sep:∀t t',b.Tm t->b.Tm t'->lo<=t->t<=hi->lo<=t'->t'<=hi->t=t') {p:Nat->Nat} (hp:b.Inl p zl lo) :
  ∃t,b.Bal (b.ln p t) t/\b.eln p t=0/\b.det p≠0:=by
 have hK:=ll.K h hp;have hne:b.Kh p≠0:=aW;have hzl:=ln_at h ll.1 hp.c hK;have hpc:=hp.c;rw[hzl]at hpc;have el':b.eln p lo<0:=by rw[<-CA h hpc,<-hzl];exact el
 obtain⟨s,g1,g2,g3,g4⟩:=JS hne hpc hi;have g5:=g3 s g1 du;have hFb:∀t,b.Inc p (b.ln p t) t->b.eln p t=0->b.Bal (b.ln p t) t:=fun t h1 h2=>by
  refine⟨E3 h h1 hK,?_⟩;have:=CA h h1;rw[h2,e]at this;grind
 have hple:∀i,i<b.N->p i<=b.n i:=fun i hi=>(hp i hi).1;by_cases hz:0<=b.eln p (lo+s*(hi-lo))
 .obtain⟨r,k1,k2,k3,k4⟩:=Aq hK el' hz;refine⟨_,hFb _ ?_ k3,k3,k4⟩;rw[show lo+r*(lo+s*(hi-lo)-lo)=lo+r*s*(hi-lo) by grind];refine g3 _ (gF aW g1) ?_;have:=Rat.mul_nonneg (show 0<=1-r by grind) g1;grind
 .exfalso;generalize ht1:lo+s*(hi-lo)=t1 at *
  have hin1:lo<=t1/\t1<=hi:=by
   have:=Rat.mul_nonneg g1 (show 0<=hi-lo by grind);have:=Rat.mul_nonneg (show 0<=1-s by grind) (show 0<=hi-lo by grind);grind
  have he1:b.e (b.ln p t1) t1<0:=by rw[CA h g5];grind
  have hF1:=E3 h g5 hK;have hT1:b.Tm t1:=by
   rcases g4 with g4|g4
   .exfalso;have:t1=hi:=by rw[<-ht1,g4];grind
    rw[this]at he1 hF1;have:=DZ h (hF1.trans lh.1.symm);rw[e]at he1 eh;grind
   .exact⟨p,hple,hne,.inl g4⟩
  obtain⟨q,hq⟩:=yZ h zh hi;have hKq:=lh.K h hq;have hneq:b.Kh q≠0:=aW;have hzh:=ln_at h lh.1 hq.c hKq;have hqc:=hq.c;rw[hzh]at hqc;have eh':0<b.eln q hi:=by rw[<-CA h hqc,<-hzh];exact eh
  have hqle:∀i,i<b.N->q i<=b.n i:=fun i hi=>(hq i hi).1;obtain⟨r,k1,k2,k3,k4⟩:=JS hneq hqc lo;generalize ht2:hi+r*(lo-hi)=t2 at *
  have hin2:lo<=t2/\t2<=hi:=by
   have:=Rat.mul_nonneg k1 (show 0<=hi-lo by grind);have:=Rat.mul_nonneg (show 0<=1-r by grind) (show 0<=hi-lo by grind);grind
  have hle:t2<=t1:=by
   rcases k4 with k4|k4
   .have:t2=lo:=by rw[<-ht2,k4];grind
    grind
   .have:=sep t1 t2 hT1 ⟨q,hqle,hneq,.inl k4⟩ hin1.1 hin1.2 hin2.1 hin2.2;grind
  have hw:0<hi-lo:=aW;have hwn:hi-lo≠0:=aW;have hs':(hi-t1)/(hi-lo)*(hi-lo)=hi-t1:=jn hwn;have hq1:b.Inc q (b.ln q t1) t1:=by
   have:=k3 ((hi-t1)/(hi-lo)) ?_ ?_
   .rwa [show hi+(hi-t1)/(hi-lo)*(lo-hi)=t1 by grind]at this
   .rw[kJ];exact gF aW (e_ (pq.2 hw))
   .by_cases hc:(hi-t1)/(hi-lo)<=r
    .exact hc
    .have:=Rat.mul_pos (show 0<(hi-t1)/(hi-lo)-r by grind) hw;grind
  have hF2:=E3 h hq1 hKq;have heq:b.eln q t1<0:=by
   rw[<-CA h hq1];have:=DZ h (hF1.trans hF2.symm);rw[e]at he1 ⊢;grind
  obtain⟨u,q1,q2,q3,q4⟩:=Aq hKq heq (e_ eh');have hT3:b.Tm (t1+u*(hi-t1)):=⟨q,hqle,hneq,.inr ⟨q3,q4⟩⟩;have hth:t1<hi:=by
   by_cases hc:t1=hi
   .rw[hc]at heq;grind
   .grind
  have hu:=Rat.mul_pos q1 (show 0<hi-t1 by grind);have hu2:=Rat.mul_nonneg (show 0<=1-u by grind) (show 0<=hi-t1 by grind);have:=sep t1 _ hT1 hT3 hin1.1 hin1.2 aW aW;grind
end Bd
namespace Bd
variable {b:Bd}
def lim (b:Bd)(i:Nat):Prop:=bU (b.M i) (b.n i)=0
def cap (b:Bd)(i:Nat):Rat:=rl (b.n i) (b.S i) (b.M i)
theorem pQ (x z:Rat):∃u:Rat,0<=u/\x<=u/\z<=u:=⟨fX x+fX z,by simp only[fX];grind,by simp only[fX];grind,by simp only[fX];grind⟩
theorem kw {g c B:Rat}(hg:0<g):∃u0:Rat,∀u,u0<=u->B<=c+g*u:=by
 refine⟨(B-c)/g,fun u hu=>?_⟩;have h1:(B-c)/g*g=B-c:=jn aW;have:=Rat.mul_nonneg (show 0<=u-(B-c)/g by grind) (Rat.le_of_lt hg);grind
theorem J2 (h:b.Ok){s z t:Rat}(hs:s=1\/s = -1)(hl:b.Least z t)(he:s*b.e z t<0)(hT:∀t',b.Tm t'->0<s*(t-t')) :
  ∃i0,i0<b.N/\(∀i,i<b.N->0<s*(b.X i-b.X i0)->b.lim i)/\am (fun i=>if 0<s*(b.X i-b.X i0) then b.cap i*(s*(b.X i-b.X i0)) else 0) b.N<b.w*(s*(b.A-b.X i0)):=by
 obtain⟨p,hp⟩:=yZ h z t;have hK:=hl.K h hp;have hne:b.Kh p≠0:=aW;have hz:=ln_at h hl.1 hp.c hK;have hpc:=hp.c;rw[hz]at hpc;have hple:∀i,i<b.N->p i<=b.n i:=fun i hi=>(hp i hi).1;have hss:s*s=1:=by rcases hs with rfl|rfl<;>grind
 have hall:∀u:Rat,0<=u->b.Inc p (b.ln p (t+s*u)) (t+s*u):=by
  intro u hu;obtain⟨r,g1,g2,g3,g4⟩:=JS hne hpc (t+s*u);rcases g4 with rfl|g4
  .have:=g3 1 Y du;rwa [show t+1*(t+s*u-t)=t+s*u by grind]at this
  .have:=hT _ ⟨p,hple,hne,.inl g4⟩;have h2:=gF g1 hu;exfalso;have:s*(t-(t+r*(t+s*u-t))) = -(r*u)*(s*s):=aW;rw[hss]at this;grind
 have hyu:∀(u:Rat) i,b.y (b.ln p (t+s*u)) (t+s*u) i=b.y (b.ln p t) t i+(s*b.gr p i)*u:=fun u i=>by rw[GL hne t];grind
 have hfle:∀(u:Rat) i,0<=u->i<b.N->b.k p i*(b.y (b.ln p t) t i+(s*b.gr p i)*u)-b.o p i<=b.w:=by
  intro u i hu hi;have h1:=hall u hu;rw[<-hyu,<-f_at h h1 hi,<-E3 h h1 hK];exact nr (f:=b.f (b.ln p (t+s*u)) (t+s*u)) (fun k hk=>IS h hk) hi
 have hup:∀i,i<b.N->0<s*b.gr p i->p i=b.n i/\b.k p i=0:=by
  intro i hi hg;have hk0:b.k p i=0:=by
   rcases cx (0<b.k p i) with hk|hk
   .exfalso;obtain⟨u0,hu0⟩:=kw (g:=b.k p i*(s*b.gr p i)) (c:=b.k p i*b.y (b.ln p t) t i-b.o p i) (B:=b.w+1) (Rat.mul_pos hk hg);obtain⟨u,h1,h2,_⟩:=pQ u0 0;have:=hu0 u h2;have:=hfle u i h1 hi;grind
   .have:=HT h hpc hi;grind
  refine⟨?_,hk0⟩;rcases aT (p i) (b.n i) with hlt|hge
  .exfalso;obtain⟨u0,hu0⟩:=kw (g:=s*b.gr p i) (c:=b.y (b.ln p t) t i) (B:=b.S i (p i)+1) hg;obtain⟨u,h1,h2,_⟩:=pQ u0 0;have h3:=hu0 u h2;have h4:=((hall u h1) i hi).2.2 hlt;rw[hyu]at h4;grind
  .have:=hple i hi;omega
 have hdown:∀i,i<b.N->s*b.gr p i<0->p i=0:=by
  intro i hi hg;cases hpi:p i with
  |zero=>rfl
  |succ k =>
   exfalso;obtain⟨u0,hu0⟩:=kw (g := -(s*b.gr p i)) (c := -(b.y (b.ln p t) t i)) (B := -(b.S i k)+1) aW;obtain⟨u,h1,h2,_⟩:=pQ u0 0;have h3:=hu0 u h2;have h4:=((hall u h1) i hi).2.1 k hpi;rw[hyu]at h4;grind
 obtain⟨i0,hi0,hk0⟩:=Ey hK fun i hi=>HT h hpc hi;have hg0:b.gr p i0=0:=by
  rcases cx (0<s*b.gr p i0) with hc|hc
  .have:=(hup i0 hi0 hc).2;grind
  .rcases cx (s*b.gr p i0<0) with hd|hd
   .have:=hdown i0 hi0 hd;rw[k,this,bU]at hk0;grind
   .have h1:s*b.gr p i0=0:=aW;have:s*s*b.gr p i0=0:=by rw[Rat.mul_assoc,h1,Rat.mul_zero]
    rw[hss]at this;grind
 have hX:∀i,b.gr p i=b.X i-b.X i0:=fun i=>by
  have:=hg0;rw[gr]at this ⊢;grind
 refine⟨i0,hi0,fun i hi hc=>?_,?_⟩
 .rw[<-hX]at hc;obtain⟨h1,h2⟩:=hup i hi hc;rw[lim,<-h1];exact h2
 .have hsum:am (fun i=>if 0<s*(b.X i-b.X i0) then b.cap i*(s*(b.X i-b.X i0)) else 0) b.N=s*(b.G0 z t-b.w*b.X i0):=by
   have h1:∀i,i<b.N->(if 0<s*(b.X i-b.X i0) then b.cap i*(s*(b.X i-b.X i0)) else 0)=(b.f z t i*b.X i-b.f z t i*b.X i0)*s:=by
    intro i hi;rcases cx (0<s*(b.X i-b.X i0)) with hc|hc
    .rw[if_pos hc];rw[<-hX]at hc;obtain⟨g1,g2⟩:=hup i hi hc;have h2:=hp.c i hi;rw[g1]at h2;have h3:=xi (h.crv i hi) h2 (by rw[<-g1];exact g2);rw[cap,<-h3,f];grind
    .rw[if_neg hc];rcases cx (s*(b.X i-b.X i0)<0) with hd|hd
     .rw[<-hX]at hd;have h2:=hp.c i hi;rw[hdown i hi hd]at h2;have h3:=BQ (h.crv i hi) h2;rw[f,h3];grind
     .have h2:s*(b.X i-b.X i0)=0:=aW;have:(b.f z t i*b.X i-b.f z t i*b.X i0)*s=b.f z t i*(s*(b.X i-b.X i0)):=aW;rw[this,h2];grind
   rw[dc h1,qW];have h2:am (fun i=>b.f z t i*b.X i-b.f z t i*b.X i0) b.N=b.G0 z t-b.F z t*b.X i0:=by
    have:=w7 (f:=fun i=>b.f z t i*b.X i) (g:=fun i=>b.f z t i*(-b.X i0)) (n:=b.N);rw[qW (f:=b.f z t)]at this;rw[G0,F];have h3:am (fun i=>b.f z t i*b.X i-b.f z t i*b.X i0) b.N=am (fun i=>b.f z t i*b.X i+b.f z t i*(-b.X i0)) b.N:=dc fun i _=>by grind
    rw[h3,this];grind
   rw[h2,hl.1];grind
  rw[hsum];rw[e]at he;grind
end Bd
def InR (n:Nat)(S:Nat->Rat)(p:Nat)(y:Rat):Prop:=p<=n/\(∀k,p=k+1->S k<=y)/\(p<n->y<S p)
section
variable {n:Nat}{S M:Nat->Rat}{y:Rat}{p:Nat}
theorem InR.c (h:InR n S p y):EV n S p y:=⟨h.1,h.2.1,fun hp=>by have:=h.2.2 hp;grind⟩
theorem InR.some (h:Crv n S M)(y:Rat):∀(m:Nat),m<=n->∃p,p<=m/\(∀k,p=k+1->S k<=y)/\(p<m->y<S p)
 |0,_=>⟨0,aH,fun k hk=>by omega,fun hk=>by omega⟩
 |m+1,hm=>by
  by_cases hy:S m<=y
  .exact⟨m+1,aH,fun k hk=>by
    have:k=m:=J
    subst this;exact hy,fun hk=>by omega⟩
  .obtain⟨p,h1,h2,h3⟩:=InR.some h y m J;refine⟨p,J,h2,fun _=>?_⟩;by_cases hp:p<m
   .exact h3 hp
   .have:p=m:=J;subst this;grind
theorem InR.get (h:Crv n S M)(y:Rat):∃p,InR n S p y:=InR.some h y n (aH)
end
namespace Bd
variable {b:Bd}
end Bd
theorem zt (q:Rat):q*(q.den:Rat)=q.num:=by
 have hne:((q.den:Int):Rat)≠0:=fun e=>dW q (mO.1 (by simpa using e));have h:=lL q;have h2:((q.num:Rat)/((q.den:Int):Rat))*((q.den:Int):Rat)=q.num:=jn hne;rw[<-h,tz]at h2;exact h2
theorem CV {p q:Rat}{m:Nat}(hp:hq p m)(hq':hq q m)(hne:p<q):1<=(q-p)*((65536^(m+m+1):Nat):Rat):=by
 have h:=(@HQ.sub q p m m ⟨hq'⟩ ⟨hp⟩).ok;generalize hd:q-p=d at *
 have h0:0<d:=aW;have hnum:1<=d.num:=by
  have h1:=Rat.num_nonneg.2 (e_ h0);have h2:d.num≠0:=fun e=>by have:=Rat.num_eq_zero.1 e;grind
  omega
 have hdd:=zt d;have h1:(1:Rat)<=d.num:=by exact_mod_cast hnum
 have h2:(d.den:Rat)<=((65536^(m+m+1):Nat):Rat):=by exact_mod_cast je h.2
 have h3:=y_ h2 (e_ h0);grind
theorem CU {q:Rat}{m:Nat}(h:hq q m):q<((65536^m:Nat):Rat) /\ -((65536^m:Nat):Rat)<q:=by
 have hdd:=zt q;have hd1:(1:Rat)<=(q.den:Rat):=by exact_mod_cast q.den_pos
 have hab:=h.1;generalize 65536^m=V at *
 have hn:q.num<(V:Int) /\ -(V:Int)<q.num:=J;have hn1:(q.num:Rat)<((V:Nat):Rat):=by
  have:=tp.2 hn.1;rwa [tz]at this
 have hn2 : -((V:Nat):Rat)<(q.num:Rat):=by
  have:=tp.2 hn.2;rwa [Rat.intCast_neg,tz]at this
 have hW:(0:Rat)<=((V:Nat):Rat):=by exact_mod_cast aF _
 generalize ((V:Nat):Rat)=W,(q.den:Rat)=D0 at *
 constructor
 .rcases cx (q<W) with hc|hc
  .exact hc
  .have:=Rat.mul_nonneg (show 0<=q-W by grind) (show 0<=D0 by grind);have:=Rat.mul_nonneg hW (show 0<=D0-1 by grind);grind
 .rcases cx (-W<q) with hc|hc
  .exact hc
  .have:=Rat.mul_nonneg (show 0 <= -W-q by grind) (show 0<=D0 by grind);have:=Rat.mul_nonneg hW (show 0<=D0-1 by grind);grind
namespace Bd
structure Sz (b:Bd):Prop where
 N:b.N<=10
 n:∀i,i<b.N->b.n i<=5
 X:∀i,i<b.N->hq (b.X i) 4
 C:∀i,i<b.N->hq (b.C i) 9
 S:∀i,i<b.N->∀k,k<b.n i->hq (b.S i k) 4
 M:∀i,i<b.N->∀k,k<b.n i->hq (b.M i k) 4
 w:hq b.w 4
 A:hq b.A 8
variable {b:Bd}
theorem Sz.k (h:b.Sz){p:Nat->Nat}(hp:∀i,i<b.N->p i<=b.n i){i:Nat}(hi:i<b.N):HQ (b.k p i) 4:=by
 rw[Bd.k];have h1:=hp i hi;cases hpi:p i with
 |zero=>rw[bU];exact HQ.zero
 |succ m=>exact⟨h.M i hi m J⟩
theorem Sz.bef (h:b.Sz){i:Nat}(hi:i<b.N){k:Nat}(hk:k<b.n i):HQ (bU (b.M i) k) 4:=by
 cases k with
 |zero=>rw[bU];exact HQ.zero
 |succ m=>exact⟨h.M i hi m J⟩
theorem Sz.o (h:b.Sz){p:Nat->Nat}(hp:∀i,i<b.N->p i<=b.n i){i:Nat}(hi:i<b.N):HQ (b.o p i) 74:=by
 rw[Bd.o,k8];have h1:=hp i hi;have h2:=h.n i hi;refine(bw (m:=13) (p i) fun k hk=>?_).mono J;have:=h.bef hi (k:=k) J;have:HQ (b.M i k) 4:=⟨h.M i hi k J⟩;have:HQ (b.S i k) 4:=⟨h.S i hi k J⟩;show HQ ((b.M i k-bU (b.M i) k)*b.S i k) 13;exact inferInstanceAs (HQ ((b.M i k-bU (b.M i) k)*b.S i k) (4+4+1+4))
theorem Sz.Kh (h:b.Sz){p:Nat->Nat}(hp:∀i,i<b.N->p i<=b.n i):HQ (b.Kh p) 54:=by
 have:=h.N;exact(bw (m:=4) b.N fun i hi=>h.k hp hi).mono J
theorem Sz.Kc (h:b.Sz){p:Nat->Nat}(hp:∀i,i<b.N->p i<=b.n i):HQ (b.Kc p) 94:=by
 have:=h.N;refine(bw (m:=8) b.N fun i hi=>?_).mono J;have:=h.k hp hi;have:HQ (b.X i) 4:=⟨h.X i hi⟩;exact inferInstanceAs (HQ (b.k p i*b.X i) (4+4))
theorem Sz.Kp (h:b.Sz){p:Nat->Nat}(hp:∀i,i<b.N->p i<=b.n i):HQ (b.Kp p) 134:=by
 have:=h.N;refine(bw (m:=12) b.N fun i hi=>?_).mono J;have:=h.k hp hi;have:HQ (b.X i) 4:=⟨h.X i hi⟩;exact inferInstanceAs (HQ (b.k p i*b.X i*b.X i) (4+4+4))
theorem Sz.Fo (h:b.Sz){p:Nat->Nat}(hp:∀i,i<b.N->p i<=b.n i):HQ (b.Fo p) 894:=by
 have:=h.N;refine(bw (m:=88) b.N fun i hi=>?_).mono J;have:=h.k hp hi;have:=h.o hp hi;have:HQ (b.C i) 9:=⟨h.C i hi⟩;exact inferInstanceAs (HQ (b.k p i*b.C i-b.o p i) (4+9+74+1))
theorem Sz.Go (h:b.Sz){p:Nat->Nat}(hp:∀i,i<b.N->p i<=b.n i):HQ (b.Go p) 934:=by
 have:=h.N;refine(bw (m:=92) b.N fun i hi=>?_).mono J;have:=h.k hp hi;have:=h.o hp hi;have:HQ (b.C i) 9:=⟨h.C i hi⟩;have:HQ (b.X i) 4:=⟨h.X i hi⟩;exact inferInstanceAs (HQ ((b.k p i*b.C i-b.o p i)*b.X i) (4+9+74+1+4))
theorem Sz.Tm (h:b.Sz){t:Rat}(ht:b.Tm t):hq t 3000:=by
 obtain⟨p,hp,hK,ht⟩:=ht;have h1:=h.Kh hp;have h2:=h.Kc hp;have h3:=h.Kp hp;have h4:=h.Fo hp;have h5:=h.Go hp;have hw:HQ b.w 4:=⟨h.w⟩;have hA:HQ b.A 8:=⟨h.A⟩;rcases ht with⟨i,hi,k,hk,g1,g2⟩|⟨g1,g2⟩
 .have hX:HQ (b.X i) 4:=⟨h.X i hi⟩;have hC:HQ (b.C i) 9:=⟨h.C i hi⟩;have hS:HQ (b.S i k) 4:=⟨h.S i hi k hk⟩;have:t=(b.S i k-b.C i-(b.w-b.Fo p)/b.Kh p)/(b.X i-b.Kc p/b.Kh p):=by
   rw[Bd.y,Bd.ln]at g1;rw[Bd.gr]at g2;grind
  rw[this];have e:HQ ((b.S i k-b.C i-(b.w-b.Fo p)/b.Kh p)/(b.X i-b.Kc p/b.Kh p)) _:=inferInstance;exact ep e.ok Y
 .have:t=(b.w*b.A-b.Go p-b.Kc p*((b.w-b.Fo p)/b.Kh p))/((b.Kh p*b.Kp p-b.Kc p*b.Kc p)/b.Kh p):=by
   rw[Bd.eln,Bd.ln]at g1;rw[Bd.det]at g2;grind
  rw[this];have e:HQ ((b.w*b.A-b.Go p-b.Kc p*((b.w-b.Fo p)/b.Kh p))/((b.Kh p*b.Kp p-b.Kc p*b.Kc p)/b.Kh p)) _:=inferInstance;exact ep e.ok Y
def SzT (b:Bd):Prop:=∀t,b.Tm t->hq t 3000
theorem Sz.T (h:b.Sz):b.SzT:=fun _ ht=>h.Tm ht
end Bd
def x6 (S:Nat->Rat)(y:Rat):Nat->Nat
 |0=>0
 |m+1=>if S m<y then m+1 else x6 S y m
def rD (S:Nat->Rat)(y:Rat):Nat->Nat
 |0=>0
 |m+1=>if S m<=y then m+1 else rD S y m
theorem wy {S:Nat->Rat}{y:Rat}:∀m,x6 S y m<=m/\(∀k,x6 S y m=k+1->S k<y)/\(x6 S y m<m->y<=S (x6 S y m))
 |0=>⟨aH,fun k hk=>by simp[x6]at hk,fun h=>by simp[x6]at h⟩
 |m+1=>by
  obtain⟨h1,h2,h3⟩:=wy (S:=S) (y:=y) m;rw[x6];split
  .rename_i hy;exact⟨aH,fun k hk=>by
    have:k=m:=J
    subst this;exact hy,fun h=>by omega⟩
  .rename_i hy;refine⟨J,h2,fun _=>?_⟩;by_cases hp:x6 S y m<m
   .exact h3 hp
   .rw[show x6 S y m=m by omega];grind
theorem wD {S:Nat->Rat}{y:Rat}:∀m,rD S y m<=m/\(∀k,rD S y m=k+1->S k<=y)/\(rD S y m<m->y<S (rD S y m))
 |0=>⟨aH,fun k hk=>by simp[rD]at hk,fun h=>by simp[rD]at h⟩
 |m+1=>by
  obtain⟨h1,h2,h3⟩:=wD (S:=S) (y:=y) m;rw[rD];split
  .rename_i hy;exact⟨aH,fun k hk=>by
    have:k=m:=J
    subst this;exact hy,fun h=>by omega⟩
  .rename_i hy;refine⟨J,h2,fun _=>?_⟩;by_cases hp:rD S y m<m
   .exact h3 hp
   .rw[show rD S y m=m by omega];grind
theorem x7 {n:Nat}{S:Nat->Rat}{y:Rat}:InL n S (x6 S y n) y:=wy n
theorem H4 {n:Nat}{S:Nat->Rat}{y:Rat}:InR n S (rD S y n) y:=wD n
theorem InL.uniq {n:Nat}{S M:Nat->Rat}(h:Crv n S M){p q:Nat}{y:Rat}(h1:InL n S p y)(h2:InL n S q y):p=q:=by
 have key:∀ {p q:Nat},InL n S p y->InL n S q y->p<q->False:=by
  intro p q h1 h2 hlt;obtain⟨k,rfl⟩:∃k,q=k+1:=⟨q-1,J⟩;have g1:=h2.2.1 k O;have g2:=h1.2.2 (by have:=h2.1;omega);have:=h.mono_st (i:=p) (j:=k) J (by have:=h2.1;omega);grind
 rcases jr p q with g|g|g
 .exact(key h1 h2 g).elim
 .exact g
 .exact(key h2 h1 g).elim
theorem InR.uniq {n:Nat}{S M:Nat->Rat}(h:Crv n S M){p q:Nat}{y:Rat}(h1:InR n S p y)(h2:InR n S q y):p=q:=by
 have key:∀ {p q:Nat},InR n S p y->InR n S q y->p<q->False:=by
  intro p q h1 h2 hlt;obtain⟨k,rfl⟩:∃k,q=k+1:=⟨q-1,J⟩;have g1:=h2.2.1 k O;have g2:=h1.2.2 (by have:=h2.1;omega);have:=h.mono_st (i:=p) (j:=k) J (by have:=h2.1;omega);grind
 rcases jr p q with g|g|g
 .exact(key h1 h2 g).elim
 .exact g
 .exact(key h2 h1 g).elim
namespace Bd
def pL (b:Bd)(z t:Rat)(i:Nat):Nat:=x6 (b.S i) (b.y z t i) (b.n i)
def pR (b:Bd)(z t:Rat)(i:Nat):Nat:=rD (b.S i) (b.y z t i) (b.n i)
def newt (kh kc kp fo mo:Rat):Option (Rat × Rat):=if kh*kp-kc*kc=0 then none else some ((kp*fo-kc*mo)/(kh*kp-kc*kc),(kh*mo-kc*fo)/(kh*kp-kc*kc))
def tryP (b:Bd)(z t:Rat)(p:Nat->Nat):Option (Rat × Rat):=match newt (b.Kh p) (b.Kc p) (b.Kp p) (b.w-b.F z t) (-(b.e z t)) with
 |none=>none
 |some d=>if b.F (z+d.1) (t+d.2)=b.w/\b.G0 (z+d.1) (t+d.2)=b.w*b.A then some (z+d.1,t+d.2) else none
def guess (b:Bd)(z t:Rat):Option (Rat × Rat):=match b.tryP z t (b.pR z t) with
 |some x=>some x
 |none=>b.tryP z t (b.pL z t)
noncomputable def sg (b:Bd)(t:Rat):Rat:=Classical.epsilon fun z=>b.Least z t
noncomputable def E (b:Bd)(t:Rat):Rat:=b.e (b.sg t) t
open Classical in
noncomputable def dbl (b:Bd)(s:Rat):Nat->Rat->Option Rat
 |0,_=>none
 |n+1,w=>if s*b.E (s*w)<0 then dbl b s n (w+w) else some w
noncomputable def at1 (b:Bd)(t:Rat):Option (Rat × Rat):=if b.E t=0 then some (b.sg t,t) else b.guess (b.sg t) t
noncomputable def bis (b:Bd):Nat->Rat->Rat->Option (Rat × Rat)
 |0,_,_=>none
 |n+1,lo,hi=>match b.at1 ((lo+hi)/2) with
  |some x=>some x
  |none=>if b.E ((lo+hi)/2)<0 then bis b n ((lo+hi)/2) hi else bis b n lo ((lo+hi)/2)
noncomputable def fst3 (b:Bd)(lo hi:Rat):Option (Rat × Rat):=match b.at1 0 with
 |some x=>some x
 |none=>match b.at1 lo with
  |some x=>some x
  |none=>b.at1 hi
variable {b:Bd}
theorem iR {t:Rat}(h:∃z,b.Least z t):b.Least (b.sg t) t:=tn h
theorem sg_eq {z t:Rat}(h:b.Least z t):b.sg t=z:=Least.uniq (iR ⟨z,h⟩) h
theorem xe {z t:Rat}{p:Nat->Nat}{x:Rat × Rat}(h:b.tryP z t p=some x):b.Bal x.1 x.2:=by
 unfold tryP at h;split at h
 .cases h
 .split at h
  .cases h;assumption
  .cases h
theorem AM {z t:Rat}{x:Rat × Rat}(h:b.guess z t=some x):b.Bal x.1 x.2:=by
 unfold guess at h;split at h
 .rename_i hx;cases h;exact xe hx
 .exact xe h
theorem oO {t:Rat}(hl:∃z,b.Least z t){x:Rat × Rat}(h:b.at1 t=some x):b.Bal x.1 x.2:=by
 unfold at1 at h;split at h
 .rename_i he;cases h;refine⟨(iR hl).1,?_⟩;rw[E,e]at he;show b.G0 (b.sg t) t=_;grind
 .exact AM h
theorem xJ (h:b.Ok){lo hi:Rat}(hl:∀t,∃z,b.Least z t)(hlt:lo<hi)(el:b.E lo<0)(eh:0<b.E hi)
  (sep:∀t t',b.Tm t->b.Tm t'->lo<=t->t<=hi->lo<=t'->t'<=hi->t=t'):b.guess (b.sg lo) lo≠none:=by
 have ll:=iR (hl lo);have hp:b.Inl (b.pL (b.sg lo) lo) (b.sg lo) lo:=fun i _=>x7;obtain⟨t,h1,h2,h3⟩:=CS h hlt ll (iR (hl hi)) el eh sep hp;have el2:b.e (b.sg lo) lo=b.E lo:=O;rw[guess];generalize hzd:b.sg lo=z0 at *
 generalize hpd:b.pL z0 lo=p at *
 have hK:=ll.K h hp;have hne:b.Kh p≠0:=aW;have hz:=ln_at h ll.1 hp.c hK;have he:b.e z0 lo=b.eln p lo:=by
  have:=hp.c;rw[e,G_at h this,eln,<-hz]
 have htry:b.tryP z0 lo p=some (b.ln p t,t):=by
  have hel:=p7 hne lo t;rw[h2]at hel;rw[det]at h3 hel;rw[tryP,newt,if_neg h3];dsimp only;have e2:lo+(b.Kh p * -(b.e z0 lo)-b.Kc p*(b.w-b.F z0 lo))/(b.Kh p*b.Kp p-b.Kc p*b.Kc p)=t:=by
   rw[ll.1,he];grind
  have e1:z0+(b.Kp p*(b.w-b.F z0 lo)-b.Kc p * -(b.e z0 lo))/(b.Kh p*b.Kp p-b.Kc p*b.Kc p)=b.ln p t:=by
   have e3:b.ln p t=z0-b.Kc p/b.Kh p*(t-lo):=by
    rw[hz,ln,ln];grind
   rw[e3,ll.1,he];grind
  rw[e1,e2];exact if_pos h1
 rw[htry];intro hn;split at hn<;>cases hn
theorem pT (h:b.Ok)(hsz:b.SzT)(hl:∀t,∃z,b.Least z t){W:Rat}(hW:W=((65536^(3000+3000+1):Nat):Rat)):∀(n:Nat) (lo hi:Rat),lo<hi->b.E lo<0->0<b.E hi->b.guess (b.sg lo) lo=none->(hi-lo)*W<((2^n:Nat):Rat)->∃x,b.bis n lo hi=some x/\b.Bal x.1 x.2
 |0,lo,hi,hlt,el,eh,hg,hd=>by
  exfalso;have hd1:(hi-lo)*W<1:=by
   rw[Nat.pow_zero]at hd;exact hd
  have hW0:(0:Rat)<=W:=by rw[hW];exact_mod_cast aF _
  refine xJ h hl hlt el eh (fun t t' ht ht' g1 g2 g3 g4=>?_) hg;have k1:=hsz _ ht;have k2:=hsz _ ht';have one:∀ {u v:Rat},hq u 3000->hq v 3000->u<v->v-u<=hi-lo->False:=by
   intro u v hu hv huv hle;have h1:=CV hu hv huv;rw[<-hW]at h1;have h2:=Rat.mul_nonneg (show 0<=(hi-lo)-(v-u) by grind) hW0;grind
  rcases cx (t<t') with hc|hc
  .exact(one k1 k2 hc aW).elim
  .rcases cx (t'<t) with hc'|hc'
   .exact(one k2 k1 hc' aW).elim
   .grind
 |n+1,lo,hi,hlt,el,eh,hg,hd=>by
  have hpow:((2^(n+1):Nat):Rat)=2*((2^n:Nat):Rat):=by
   rw[Nat.pow_succ,Rat.natCast_mul];grind
  rw[hpow]at hd;rw[bis];cases h1:b.at1 ((lo+hi)/2) with
  |some x=>exact⟨x,rfl,oO (hl _) h1⟩
  |none =>
   dsimp only;have h2:b.E ((lo+hi)/2)≠0/\b.guess (b.sg ((lo+hi)/2)) ((lo+hi)/2)=none:=by
    unfold at1 at h1;split at h1
    .cases h1
    .exact⟨‹_›,h1⟩
   split
   .rename_i hE;exact pT h hsz hl hW n _ hi aW hE eh h2.2 aW
   .rename_i hE;exact pT h hsz hl hW n lo _ aW el aW hg aW
def NoTip (b:Bd):Prop:=∀s:Rat,s=1\/s = -1->∀i0,i0<b.N->(∀i,i<b.N->0<s*(b.X i-b.X i0)->b.lim i)->¬am (fun i=>if 0<s*(b.X i-b.X i0) then b.cap i*(s*(b.X i-b.X i0)) else 0) b.N<b.w*(s*(b.A-b.X i0))
theorem ve (h:b.Ok)(hsz:b.SzT)(hl:∀t,∃z,b.Least z t)(hn:b.NoTip){s:Rat}(hs:s=1\/s = -1){K:Nat}(hK:65536^3000=2^K) :
  ∀(j k:Nat),K<=j+k->k<=K->∃m,m<=K/\b.dbl s (j+1) ((2^k:Nat):Rat)=some ((2^m:Nat):Rat)/\0<=s*b.E (s*((2^m:Nat):Rat)):=by
 intro j
 induction j with
 |zero =>
  intro k h1 h2;obtain rfl:k=K:=J;have hE:¬s*b.E (s*((2^k:Nat):Rat))<0:=by
   intro hlt;obtain⟨i0,g1,g2,g3⟩:=J2 h hs (iR (hl _)) hlt fun t' ht'=>by
    have:=CU (hsz _ ht');rw[hK]at this;rcases hs with rfl|rfl<;>grind
   exact hn s hs i0 g1 g2 g3
  refine⟨k,aH,?_,aW⟩;rw[dbl,if_neg hE]
 |succ j ih =>
  intro k h1 h2;rw[dbl];split
  .rename_i hlt;by_cases hk:k=K
   .subst hk;exfalso;obtain⟨i0,g1,g2,g3⟩:=J2 h hs (iR (hl _)) hlt fun t' ht'=>by
     have:=CU (hsz _ ht');rw[hK]at this;rcases hs with rfl|rfl<;>grind
    exact hn s hs i0 g1 g2 g3
   .have hp:((2^k:Nat):Rat)+((2^k:Nat):Rat)=((2^(k+1):Nat):Rat):=by rw[Nat.pow_succ,Rat.natCast_mul];grind
    rw[hp];exact ih (k+1) J J
  .exact⟨k,h2,O,aW⟩
noncomputable def eqQ (b:Bd)(n:Nat):Option (Rat × Rat):=match b.dbl (-1) n 1,b.dbl 1 n 1 with
 |some wl,some wh=>(match b.fst3 (-wl) wh with
  |some x=>some x
  |none=>b.bis n (-wl) wh)
 |_,_=>none
theorem eq_some (h:b.Ok)(hsz:b.SzT)(hl:∀t,∃z,b.Least z t)(hn:b.NoTip){K n:Nat}(hK:65536^3000=2^K){L:Nat}(hL:65536^(3000+3000+1)=2^L)(hKn:K<n)(hLn:K+1+L<n):∃x,b.eqQ n=some x/\b.Bal x.1 x.2:=by
 obtain⟨j,rfl⟩:∃j,n=j+1:=⟨n-1,J⟩;obtain⟨ml,l1,l2,l3⟩:=ve h hsz hl hn (s := -1) (.inr O) hK j 0 J J;obtain⟨mh,g1,g2,g3⟩:=ve h hsz hl hn (s:=1) (.inl O) hK j 0 J J;rw[show(((2:Nat)^0:Nat):Rat)=1 by rfl]at l2 g2;have hml:((2^ml:Nat):Rat)<=((2^K:Nat):Rat):=by exact_mod_cast fb Y l1
 have hmh:((2^mh:Nat):Rat)<=((2^K:Nat):Rat):=by exact_mod_cast fb Y g1
 have hml0:(0:Rat)<((2^ml:Nat):Rat):=by exact_mod_cast fE Y
 have hmh0:(0:Rat)<((2^mh:Nat):Rat):=by exact_mod_cast fE Y
 have hW0:(0:Rat)<((2^L:Nat):Rat):=by exact_mod_cast fE Y
 have hWL:((2^K:Nat):Rat)*2*((2^L:Nat):Rat)<((2^(j+1):Nat):Rat):=by
  have:2^K*2*2^L<2^(j+1):=by
   rw[<-cn,<-fF];exact tt Y J
  exact_mod_cast this
 rw[eqQ,l2,g2];dsimp only;generalize ((2^ml:Nat):Rat)=wl,((2^mh:Nat):Rat)=wh,((2^K:Nat):Rat)=wk at *
 cases hf:b.fst3 (-wl) wh with
 |some x =>
  refine⟨x,O,?_⟩;unfold fst3 at hf;split at hf
  .rename_i hx;cases hf;exact oO (hl _) hx
  .split at hf
   .rename_i hx;cases hf;exact oO (hl _) hx
   .exact oO (hl _) hf
 |none =>
  dsimp only;have hno:b.at1 (-wl)=none/\b.at1 wh=none:=by
   unfold fst3 at hf;split at hf
   .cases hf
   .split at hf
    .cases hf
    .exact⟨‹_›,hf⟩
  have key:∀t,b.at1 t=none->b.E t≠0/\b.guess (b.sg t) t=none:=by
   intro t h1;unfold at1 at h1;split at h1
   .cases h1
   .exact⟨‹_›,h1⟩
  obtain⟨e1,e2⟩:=key _ hno.1;obtain⟨e3,e4⟩:=key _ hno.2;rw[show(-1:Rat)*wl = -wl by grind]at l3;rw[show(1:Rat)*wh=wh by grind]at g3;refine pT h hsz hl (W:=((2^L:Nat):Rat)) (by rw[hL]) (j+1) (-wl) wh aW aW aW e2 ?_;have h1:=Rat.mul_nonneg (show 0<=wk-wl by grind) (Rat.le_of_lt hW0);have h2:=Rat.mul_nonneg (show 0<=wk-wh by grind) (Rat.le_of_lt hW0);generalize ((2^L:Nat):Rat)=W at *
  grind
end Bd
def eX:List (Rat × Rat)->Rat->Rat
 |[],_=>0
 |x::l,z=>x.2*fX (z-x.1)+eX l z
def mw:List (Rat × Rat)->Rat
 |[]=>0
 |x::l=>x.2+mw l
theorem j2 (l m:List (Rat × Rat))(z:Rat):eX (l++m) z=eX l z+eX m z:=by
 induction l with
 |nil=>rw[List.nil_append,eX];grind
 |cons x l ih=>rw[List.cons_append,eX,eX,ih];grind
theorem u_ (l m:List (Rat × Rat)):mw (l++m)=mw l+mw m:=by
 induction l with
 |nil=>rw[List.nil_append,mw];grind
 |cons x l ih=>rw[List.cons_append,mw,mw,ih];grind
theorem A9 {l m:List (Rat × Rat)}(h:l.Perm m)(z:Rat):eX l z=eX m z:=by
 induction h with
 |nil=>rfl
 |cons x _ ih=>rw[eX,eX,ih]
 |swap x y l=>simp only[eX];grind
 |trans _ _ h1 h2=>rw[h1,h2]
theorem lX {l:List (Rat × Rat)}{z:Rat}(h:∀x∈l,z<=x.1):eX l z=0:=by
 induction l with
 |nil=>rfl
 |cons x l ih =>
  have h1:=h x aj;rw[eX,ih fun y hy=>h y (by simp[hy]),fX,if_neg aW];grind
theorem oy {l:List (Rat × Rat)}{a z:Rat}(h:∀x∈l,x.1<=a)(hz:a<=z):eX l z=eX l a+mw l*(z-a):=by
 induction l with
 |nil=>simp only[eX,mw];grind
 |cons x l ih =>
  have h1:=h x aj;have e1:fX (z-x.1)=z-x.1:=by rw[fX];grind
  have e2:fX (a-x.1)=a-x.1:=by rw[fX];grind
  simp only[eX,mw];rw[ih fun y hy=>h y (by simp[hy]),e1,e2];grind
def B1 (w:Rat):List (Rat × Rat)->Rat->Rat->Rat->Rat
 |[],c,k,a=>if 0<k then a+(w-c)/k else a
 |x::l,c,k,a=>if 0<k then(if w<=c+k*(x.1-a) then a+(w-c)/k else B1 w l (c+k*(x.1-a)) (k+x.2) x.1) else B1 w l c (k+x.2) x.1
theorem Hf {Φ:Rat->Rat}{w c k a:Rat}(hm:∀x y,x<=y->Φ x<=Φ y)(ha:Φ a=c)(hc:c<w)(hk:0<k)(hu:∀z,a<=z->z<=a+(w-c)/k->Φ z=c+k*(z-a)):Φ (a+(w-c)/k)=w/\∀z',z'<a+(w-c)/k->Φ z'<w:=by
 have hq:(w-c)/k*k=w-c:=jn aW;have h0:0<=(w-c)/k:=by rw[kJ];exact gF aW (e_ (pq.2 hk))
 generalize (w-c)/k=d at *
 refine⟨by rw[hu _ aW Rat.le_refl];grind,fun z' hz=>?_⟩;rcases cx (a<=z') with h|h
 .rw[hu z' h aW];have:=Rat.mul_pos hk (show 0<a+d-z' by grind);grind
 .have:=hm z' a aW;grind
theorem If {w:Rat}{Φ:Rat->Rat}(hm:∀x y,x<=y->Φ x<=Φ y)(hw:0<w)(hex:∃z,w<=Φ z):∀(R P:List (Rat × Rat)) (c k a:Rat),(∀z,Φ z=eX P z+eX R z)->R.Pairwise (fun x y=>x.1<=y.1) ->
  ((P=[]/\c=0/\k=0)\/((∀x∈P,x.1<=a)/\(∀x∈R,a<=x.1)/\Φ a=c/\c<w/\k=mw P))->Φ (B1 w R c k a)=w/\∀z',z'<B1 w R c k a->Φ z'<w:=by
 intro R
 induction R with
 |nil =>
  intro P c k a hΦ _ h;obtain⟨z0,hz0⟩:=hex;rcases h with⟨rfl,rfl,rfl⟩|⟨h1,_,h3,h4,h5⟩
  .exfalso;rw[hΦ]at hz0;simp only[eX]at hz0;grind
  .have hline:∀z,a<=z->Φ z=c+k*(z-a):=fun z hz=>by
    have e1:=hΦ z;have e2:=hΦ a;rw[oy h1 hz,<-h5]at e1;simp only[eX]at e1 e2;grind
   rw[B1];split
   .rename_i hk;exact Hf hm h3 h4 hk fun z hz _=>hline z hz
   .rename_i hk;exfalso;rcases cx (a<=z0) with hz|hz
    .rw[hline z0 hz]at hz0;have:=Rat.mul_nonneg (show 0 <= -k by grind) (show 0<=z0-a by grind);grind
    .have:=hm z0 a aW;grind
 |cons x R ih =>
  intro P c k a hΦ hs h;rw[kA]at hs;have hΦ':∀z,Φ z=eX (P++[x]) z+eX R z:=fun z=>by
   rw[hΦ,j2];simp only[eX];grind
  rcases h with⟨rfl,rfl,rfl⟩|⟨h1,h2,h3,h4,h5⟩
  .rw[B1,if_neg aW];refine ih ([]++[x]) 0 (0+x.2) x.1 hΦ' hs.2 (.inr ⟨fun y hy=>by simp at hy;subst hy;exact Rat.le_refl,fun y hy=>hs.1 y hy,?_,hw,by simp only[mw,List.nil_append];grind⟩);rw[hΦ,lX (l:=x::R) fun y hy=>?_]
   .simp only[eX];grind
   .rcases cw.1 hy with rfl|hy
    .exact du
    .exact hs.1 y hy
  .have hax:=h2 x aj;have hline:∀z,a<=z->z<=x.1->Φ z=c+k*(z-a):=fun z hz hzx=>by
    have e1:=hΦ z;have e2:=hΦ a;rw[oy h1 hz,<-h5,lX (l:=x::R) fun y hy=>?_]at e1
    .rw[lX (l:=x::R) fun y hy=>h2 y hy]at e2;grind
    .rcases cw.1 hy with rfl|hy
     .exact hzx
     .have:=hs.1 y hy;grind
   have hx1:=hline x.1 hax du;have hP:∀y∈P++[x],y.1<=x.1:=fun y hy=>by
    rcases fe.1 hy with hy|hy
    .have:=h1 y hy;grind
    .simp at hy;subst hy;exact du
   have hcs:k+x.2=mw (P++[x]):=by rw[u_,<-h5];simp only[mw];grind
   rw[B1];split
   .rename_i hk;split
    .rename_i hle;refine Hf hm h3 h4 hk fun z hz hz2=>hline z hz ?_;have hq:(w-c)/k*k=w-c:=jn aW;generalize (w-c)/k=d at *
     rcases cx (z<=x.1) with hc|hc
     .exact hc
     .have:=Rat.mul_pos hk (show 0<a+d-x.1 by grind);grind
    .rename_i hlt;exact ih (P++[x]) _ _ _ hΦ' hs.2 (.inr ⟨hP,fun y hy=>hs.1 y hy,hx1,aW,hcs⟩)
   .rename_i hk;have h6:=hm a x.1 hax;have h7:=Rat.mul_nonneg (show 0 <= -k by grind) (show 0<=x.1-a by grind);exact ih (P++[x]) _ _ _ hΦ' hs.2 (.inr ⟨hP,fun y hy=>hs.1 y hy,aW,h4,hcs⟩)
namespace Bd
variable {b:Bd}
def bnd1 (b:Bd)(t:Rat)(i:Nat):List (Rat × Rat):=(List.range (b.n i)).map fun k=>(b.S i k-(b.C i+t*b.X i),b.M i k-bU (b.M i) k)
def bnds (b:Bd)(t:Rat):List (Rat × Rat):=(List.range b.N).flatMap (b.bnd1 t)
theorem Cl (b:Bd)(z t:Rat)(i:Nat):eX (b.bnd1 t i) z=b.f z t i:=by
 have key:∀m,eX ((List.range m).map fun k=>(b.S i k-(b.C i+t*b.X i),b.M i k-bU (b.M i) k)) z=am (fp (b.S i) (b.M i) (b.y z t i)) m:=by
  intro m
  induction m with
  |zero=>rfl
  |succ m ih =>
   rw[tS,bQ,j2,ih,am,nV];simp only[db,fC,eX];rw[show z-(b.S i m-(b.C i+t*b.X i))=b.y z t i-b.S i m by rw[y];grind];grind
 exact key (b.n i)
theorem Cm (b:Bd)(z t:Rat):eX (b.bnds t) z=b.F z t:=by
 have key:∀m,eX ((List.range m).flatMap (b.bnd1 t)) z=am (b.f z t) m:=by
  intro m
  induction m with
  |zero=>rfl
  |succ m ih =>
   rw[tS,o6,j2,ih,am];simp only[js,List.flatMap_nil,cu,Cl]
 exact key b.N
theorem settled_least (h:b.Ok){t:Rat}(hex:∃z,b.w<=b.F z t){l:List (Rat × Rat)}(hp:l.Perm (b.bnds t))(hs:l.Pairwise fun x y=>x.1<=y.1):b.Least (B1 b.w l 0 0 0) t:=by
 refine If (Φ:=fun z=>b.F z t) (fun x y hxy=>Ht h hxy) h.pos hex l [] 0 0 0 (fun z=>?_) hs (.inl ⟨O,O,O⟩);rw[A9 hp,Cm,eX];grind
theorem Fu (_h:b.Ok)(t:Rat):∃z0:Rat,∀z,z0<=z->b.Inc b.n z t:=by
 have key:∀m,m<=b.N->∃z0:Rat,∀z,z0<=z->∀i,i<m->EV (b.n i) (b.S i) (b.n i) (b.y z t i):=by
  intro m
  induction m with
  |zero=>exact fun _=>⟨0,fun _ _ i hi=>by omega⟩
  |succ m ih =>
   intro hm;obtain⟨z0,h1⟩:=ih J;cases hn:b.n m with
   |zero =>
    refine⟨z0,fun z hz i hi=>?_⟩;by_cases he:i<m
    .exact h1 z hz i he
    .obtain rfl:i=m:=J;exact⟨aH,fun k hk=>by omega,fun hk=>by omega⟩
   |succ k =>
    obtain⟨u,g0,g1,g2⟩:=pQ z0 (b.S m k-(b.C m+t*b.X m));refine⟨u,fun z hz i hi=>?_⟩;by_cases he:i<m
    .exact h1 z aW i he
    .obtain rfl:i=m:=J;refine⟨aH,fun k' hk'=>?_,fun hk=>by omega⟩;obtain rfl:k=k':=J;rw[y];grind
 exact key b.N (aH)
theorem enough (h:b.Ok)(t:Rat)(hd:¬((∀i,i<b.N->b.lim i)/\am b.cap b.N<b.w)):∃z,b.w<=b.F z t:=by
 obtain⟨z0,h0⟩:=Fu h t;rcases cx (∀i,i<b.N->b.lim i) with hl|hl
 .have hc:b.w<=am b.cap b.N:=by
   rcases cx (am b.cap b.N<b.w) with hc|hc
   .exact absurd ⟨hl,hc⟩ hd
   .grind
  refine⟨z0,?_⟩;have:b.F z0 t=am b.cap b.N:=dc fun i hi=>xi (h.crv i hi) (h0 z0 du i hi) (hl i hi);rw[this];exact hc
 .obtain⟨i,hi,hn⟩:∃i,i<b.N/\¬b.lim i:=by
   rcases cx (∃i,i<b.N/\¬b.lim i) with hx|hx
   .exact hx
   .exact absurd (fun i hi=>by
     rcases cx (b.lim i) with hc|hc
     .exact hc
     .exact absurd ⟨i,hi,hc⟩ hx) hl
  have hpos:0<b.k b.n i:=by
   have:=Cg (h.crv i hi) (ji (b.n i));have h2:bU (b.M i) (b.n i)≠0:=hn;rw[k];grind
  obtain⟨u0,hu⟩:=kw (g:=b.k b.n i) (c:=b.k b.n i*(b.C i+t*b.X i)-b.o b.n i) (B:=b.w) hpos;obtain⟨z,_,g1,g2⟩:=pQ z0 u0;refine⟨z,?_⟩;have h1:=hu z g2;have h2:=f_at h (h0 z g1) hi;have h3:=nr (f:=b.f z t) (fun k hk=>IS h hk) hi;rw[y]at h2;rw[F];grind
end Bd
def uQ (n:Nat)(S:Nat->Rat)(y:Rat)(k:Nat):Rat:=fX (xb S n y k-S k)
def H3 (n:Nat)(S M:Nat->Rat)(y:Rat)(k:Nat):Rat:=M k*(uQ n S y k*(y-S k)-uQ n S y k*uQ n S y k/2)
def J6 (n:Nat)(S M:Nat->Rat)(y:Rat):Rat:=am (H3 n S M y) n
namespace Bd
variable {b:Bd}
def U (b:Bd)(z t:Rat):Rat:=am (fun i=>J6 (b.n i) (b.S i) (b.M i) (b.y z t i)) b.N-b.w*(z+t*b.A)
end Bd
def ij (S M:Nat->Rat)(y:Rat)(k:Nat):Rat:=if y-S k<0 then 0 else M k-bU M k
def Eg (n:Nat)(S M:Nat->Rat)(y:Rat):Rat:=am (ij S M y) n
theorem Gm {c:CR}(hc:c.Lim)(q:Rat)(k:Nat):HQ (ij c.s c.m q k) 27:=by
 rw[ij];split
 .exact HQ.zero.mono J
 .exact qB hc k
noncomputable def Is:Array Tmp × Code × Code:=(ou ((Tryz.f304.body).getD .skip)).getD (#[],.skip,.skip)
theorem wW {s0:St}{q0 q2 q3 g4 g7 b4:Nat}{x2 x3 x1004:Cont}{bf V0 V1 CH FA:RR}(hadd:bb 74 [.agg (eR V0),.agg (eR CH)] (.agg (eR V1))) :
  zV Tryz.prog (s0.over [(7,.ptr 1007 g7 0 0)] []) q0 q2 q3 g4 g7 b4 19 20 Is.2.1 Is.2.2 x2 x3 x1004 bf V0 V1 CH FA:=by
 intro own hf pO hPost;have ho:own=(St.over { reg:=fun _ => .raw undef,own:=own } [] (Hh q0 q2 q3 g4 g7 b4 (cz #[19,20] Is.2.1 Is.2.2 .ready none (s0.over [(7,.ptr 1007 g7 0 0)] []).reg) x2 x3 x1004 bf V0)).own:=congrArg St.own (Fit.over hf).symm;rw[ho];clear ho hf;generalize (St.mk (fun _ => .raw undef) own)=s1;refine H ?_;refine⟨O,?_⟩;refine G hadd ?_;refine H ?_;exact hPost _ ⟨O,O,O,O,O,O,bP⟩
theorem Bw (c:CR)(hc:c.Lim)(h0:eG c=0)(y:RR){q:Rat}{n:Nat}[hy:Vq y q n](hn:n<=100000):bb 304 [.agg (eC c),.agg (eR y)] (.tup [.agg (eR (ofQ (Eg c.S.length c.s c.m q))),I 0]):=by
 have hcc:=fv c hc;rw[h0]at hcc;obtain⟨h40,hSM,-,hasc⟩:=fx h0;have hz:=fV 0 Y Y;rw[show(((0:Int):Rat))=0 from O]at hz;have hsum:∀i,i<=40->Vq (ofQ (am (ij c.s c.m q) i)) (am (ij c.s c.m q) i) (i*(27+1)+4):=fun i _=>Vq.ofQ (h:=bw i fun k _=>Gm hc q k);refine Ret.of_pwpR dY mixed Go.Proofs.Tryz.func304 O Y O O O ?_;refine aB hcc ?_;refine G hz ?_;refine dN 5 ?_;refine ax (Ghost.move (k:=2) (k':=1002) (t:=2) O O O O) ?_;refine ax (Ghost.move (k:=3) (k':=1003) (t:=3) O O O O) ?_;refine ax (Ghost.move (k:=4) (k':=1004) (t:=4) O O O O) ?_;refine ax (Ghost.move (k:=7) (k':=1007) (t:=7) O O O O) ?_
 (refine dN 5 ?_;refine aD 2 ?_)
 iterate 2 refine g_ O ?_
 refine bg ?_;refine aU O (cB dY O O Go.Proofs.Tryz.func307 O Y O O ?_);refine dN 1 ?_;refine ax (Ghost.move (k:=2) (k':=2002) (t:=2) O O O O) ?_;refine ax (Ghost.move (k:=3) (k':=2003) (t:=3) O O O O) ?_;refine H ?_;refine td O O ?_;refine aE ?_;refine H ?_;refine cA [(7,.ptr 1007 1 0 0),(4,.ptr 1004 1 0 0),(18,.clo 315 [.ptr 2002 1 0 0,.ptr 2003 1 0 0])] [(2002,1,⟨194,2,[eC c],2⟩),(2003,1,⟨41,4,[eR y],2⟩),(1004,1,⟨41,4,[[.bool false,.nil,.bool false,.nil]],2⟩),(1007,1,⟨41,4,[eR (ofQ 0)],2⟩)] ak ?_;intro s3;refine wG (ss (ps:=#[19,20]) (asg:=Is.2.1) (body:=Is.2.2) 2000 O Go.Proofs.Tryz.func315 O O O O O O ?_);generalize hq0:(s3.own 2000).1+1=q0;refine qI (q:=q) (n:=n) (q0:=q0) (q2:=1) (q3:=1) (g4:=1) (g7:=1) c hc y hy J hSM (fun i=>ofQ (am (ij c.s c.m q) i)) _ ⟨by rw[<-hq0];rfl,O,O,O,O,bP⟩ ?_ ?_
 .intro i hi hpos b4 bf;have hadd:=dh (ofQ (am (ij c.s c.m q) i)) (ofQ (c.m i-bU c.m i)) (hx:=hsum i J) (hy:=Vq.ofQ (h:=qB hc i)) J Y;rw[show am (ij c.s c.m q) i+(c.m i-bU c.m i)=am (ij c.s c.m q) (i+1) by rw[am,ij,if_neg hpos]]at hadd;exact wW (s0:=s3.over [(4,.ptr 1004 1 0 0),(18,.clo 315 [.ptr 2002 1 0 0,.ptr 2003 1 0 0])] []) hadd
 .intro i hi hor b4 bf s2 hf;have hres:am (ij c.s c.m q) i=Eg c.S.length c.s c.m q:=sq hasc (fun k hk=>by rw[ij,if_pos hk]) hi hor;dsimp only at hf;rw[hres]at hf;rw[<-Fit.over (l:=[]) hf];exact cy
def Weak (a b:PV):Prop:=∀(w:World) (ok:Nat->Prop) (v:Value),DRep w ok a v->DRep w ok b v
theorem Weak.rfl (a:PV):Weak a a:=fun _ _ _ h=>h
theorem Weak.nil:Weak .nil (.sl []):=fun w ok v h=>by cases h;exact .sl0 none 0
inductive WeakL:List PV->List PV->Prop
 |nil:WeakL [] []
 |cons {a b:PV} {l m:List PV}:Weak a b->WeakL l m->WeakL (a::l) (b::m)
theorem WeakL.refl:∀l,WeakL l l
 |[] => .nil
 |a::l => .cons (.rfl a) (WeakL.refl l)
theorem WeakL.spec {l m:List PV}(h:WeakL l m):l.length=m.length/\∀(i:Nat) (b:PV),m[i]?=some b->∃a,l[i]?=some a/\Weak a b:=by
 induction h with
 |nil=>exact⟨by rfl,fun i b hb=>by simp at hb⟩
 |cons h1 _ ih =>
  refine⟨by simp[ih.1],fun i b hb=>?_⟩;cases i with
  |zero=>simp at hb;subst hb;exact⟨_,by rfl,h1⟩
  |succ i=>simpa using ih.2 i b (by simpa using hb)
theorem WeakL.agg {l m:List PV}(h:WeakL l m):Weak (.agg l) (.agg m):=fun w ok v hv=>by
 cases hv with
 |agg _ vs hl hd =>
  refine .agg _ vs (by rw[<-h.spec.1];exact hl) fun i c u hc hu=>?_;obtain⟨a,ha,hw⟩:=h.spec.2 i c hc;exact hw _ _ _ (hd i a u ha hu)
theorem WeakL.tup {l m:List PV}(h:WeakL l m):Weak (.tup l) (.tup m):=fun w ok v hv=>by
 cases hv with
 |tup _ vs hl hd =>
  refine .tup _ vs (by rw[<-h.spec.1];exact hl) fun i c u hc hu=>?_;obtain⟨a,ha,hw⟩:=h.spec.2 i c hc;exact hw _ _ _ (hd i a u ha hu)
theorem Ret.weak {P:Program}{m:Mode}{f:FuncId}{pargs pargs':List PV}{r r':PV}(h:Ret P m f pargs r')(ha:WeakL pargs' pargs)(hr:Weak r' r):Ret P m f pargs' r:=by
 obtain⟨hc,h⟩:=h;refine⟨hc,fun w X args hg hX hl hargs=>?_⟩;refine(h w X args hg hX (by rw[<-ha.spec.1];exact hl) fun i c v e1 e2=>?_).mono ?_
 .obtain⟨a,e3,hw⟩:=ha.spec.2 i c e1;exact hw _ _ _ (hargs i a v e3 e2)
 .rintro e w' ⟨u,h1,h2,h3⟩;exact⟨u,h1,h2,hr _ _ _ h3⟩
def zN:List PV:=[.bool false,.nil,.bool false,.nil]
theorem jG:WeakL zN (eR RR.zero) := .cons (.rfl _) (.cons .nil (.cons (.rfl _) (.cons .nil .nil)))
theorem bH (z:Int)(h:i64 z):bb 185 [I z] (.agg (eR (ofQ (z:Rat)))):=by
 have ho:=x5 z h.1 h.2;have hw:=ol (dQ z) (by have:=mV (z:=z) (by obtain⟨h1,h2⟩:=h;omega);omega);rw[dV]at hw;generalize ofQ (z:Rat)=X,dQ z=Z at *
 refine ay Proofs.Tryz.func185 ?_;refine G ho ?_;refine G hw ?_;exact cy
theorem qQ (x:RR){p:Rat}{n:Nat}[hx:Vq x p n](hn:n<=8000000):bb 188 [.agg (eR x)] (I (sgn p)):=by
 have hc:=mt x RR.zero hn Y;rw[kz,Rat.neg_zero,pn]at hc;have hc2:=hc.weak (.cons (.rfl _) (.cons jG.agg .nil)) (.rfl _);generalize sgn p=g at *
 refine ay Proofs.Tryz.func188 ?_;refine aB hc2 ?_;exact dL
theorem wt (x y:RR){p q:Rat}{n m:Nat}[hx:Vq x p n][hy:Vq y q m](hn:n<=20000000)(hm:m<=20000000)(h0:q≠0):bb 193 [.agg (eR x),.agg (eR y)] (.agg (eR (ofQ (p/q)))):=by
 have hq:=wH x y hn hm;rw[if_neg h0]at hq;generalize ofQ (p/q)=X at *
 refine ay Proofs.Tryz.func193 ?_;refine G hq ?_;exact cy
theorem IX (x:RR){p:Rat}{n:Nat}[hx:Vq x p n](hn:n<=10000000):bb 191 [.agg (eR x)] (.agg (eR (ofQ (-p)))):=by
 have hs:=mc RR.zero x Y hn;rw[kz,Rat.zero_add]at hs;have hs2:=hs.weak (.cons jG.agg (.cons (.rfl _) .nil)) (.rfl _);generalize ofQ (-p)=X at *
 refine ay Proofs.Tryz.func191 ?_;refine G hs2 ?_;exact cy
theorem FE (x:RR){p:Rat}{n:Nat}[hx:Vq x p n](hn:n<=10000000):bb 182 [.agg (eR x)] (.agg (eR (ofQ p))):=by
 have hs:=dh x RR.zero J Y;rw[pn]at hs;have hs2:=hs.weak (.cons (.rfl _) (.cons jG.agg .nil)) (.rfl _);generalize ofQ p=X at *
 refine ay Proofs.Tryz.func182 ?_;refine G hs2 ?_;exact cy
structure SR.Lim (s:SR):Prop where
 x:i64 s.x
 c:s.c.sz 12
 k:s.k.Lim
def yQ (s:SR)(z t:Rat):Rat:=s.c.val+(z+t*(s.x:Rat))
theorem Ap {s:SR}(hs:s.Lim){z t:Rat}{n m:Nat}(hz:HQ z n)(ht:HQ t m):HQ (yQ s z t) (13+(n+(m+4)+1)+1):=by
 have hx:Zb s.x:=aL hs.x.1 hs.x.2;exact @HQ.add _ _ 13 (n+(m+4)+1) hs.c.v.hq (@HQ.add _ _ n (m+4) hz (@HQ.mul _ _ m 4 ht HQ.int))
structure AR where
 z:RR
 t:RR
def eA (a:AR):List PV:=eR a.z++eR a.t
class Va (a:AR) (z t:outParam Rat) (n m:outParam Nat):Prop where
 z:Vq a.z z n
 t:Vq a.t t m
theorem nE (s:SR)(hs:s.Lim)(a:AR){z t:Rat}{n m:Nat}[ha:Va a z t n m](hn:n<=1000000)(hm:m<=1000000):bb 268 [.agg (eS s),.agg (eA a)] (.agg (eR (ofQ (yQ s z t)))):=by
 have hx:Zb s.x:=aL hs.x.1 hs.x.2;have hzh:=ha.z.hq;have hth:=ha.t.hq;have hw:=bH s.x hs.x;have h1:=gu a.t (ofQ (s.x:Rat)) (hx:=ha.t) J Y;have v1:Vq (ofQ (t*(s.x:Rat))) (t*(s.x:Rat)) (m+1+4):=Vq.ofQ (h:=@HQ.mul _ _ (m+1) 4 hth HQ.int);have h2:=dh a.z (ofQ (t*(s.x:Rat))) (hx:=ha.z) (hy:=v1) J J;have v2:Vq (ofQ (z+t*(s.x:Rat))) (z+t*(s.x:Rat)) (n+1+(m+1+4)+1):=Vq.ofQ (h:=@HQ.add _ _ (n+1) (m+1+4) hzh (@HQ.mul _ _ (m+1) 4 hth HQ.int));have h3:=dh s.c (ofQ (z+t*(s.x:Rat))) (hx:=hs.c.v) (hy:=v2) Y J;rw[yQ];obtain⟨x,c,k⟩:=s;obtain⟨az,at'⟩:=a;simp only at *
 generalize ofQ (c.val+(z+t*(x:Rat)))=X3,ofQ (z+t*(x:Rat))=X2,ofQ (t*(x:Rat))=X1,ofQ (x:Rat)=X0 at *
 refine ay Proofs.Tryz.func268 ?_;refine dg 12 [5,6,7,8,9,10,11,12,13,14,15,16] ?_;refine G hw ?_;refine G h1 ?_;refine G h2 ?_;refine G h3 ?_;exact cy
def fQ (s:SR)(z t:Rat):Rat:=jF s.k.S.length s.k.s s.k.m (yQ s z t)
theorem AL (s:SR)(hs:s.Lim)(hk:eG s.k=0)(a:AR){z t:Rat}{n m:Nat}[ha:Va a z t n m](hn:n+m<=90000):bb 199 [.agg (eS s),.agg (eA a)] (.agg (eR (ofQ (fQ s z t)))):=by
 have h1:=nE s hs a J J;have v1:Vq (ofQ (yQ s z t)) (yQ s z t) (13+(n+1+(m+1+4)+1)+1):=Vq.ofQ (h:=Ap hs ha.z.hq ha.t.hq);have h2:=BS s.k hs.k hk (ofQ (yQ s z t)) (hy:=v1) J;rw[fQ];generalize ofQ (jF s.k.S.length s.k.s s.k.m (yQ s z t))=X2,ofQ (yQ s z t)=X1 at *
 obtain⟨x,c,k⟩:=s;obtain⟨az,at'⟩:=a;simp only at *
 refine ay Proofs.Tryz.func199 ?_;refine H ?_;refine cY [5] [9,10] aN ?_;refine G h1 ?_;refine G h2 ?_;exact cy
theorem Fv (x:Int):bb 253 [I x] (.bool (decide (x < -1000000\/1000000<x))):=by
 by_cases h1:x < -1000000
 .rw[decide_eq_true (.inl h1)];refine ay Proofs.Tryz.func253 ?_;refine fZ ?_ ?_<;>intro h
  .exact rq
  .exact absurd h1 (cJ h)
 .rw[show decide (x < -1000000\/1000000<x)=decide (1000000<x) by rw[decide_eq_decide];omega];refine ay Proofs.Tryz.func253 ?_;refine fZ ?_ ?_<;>intro h
  .exact absurd (bK h) h1
  .exact rq
theorem pS (x:RR){p:Rat}{m:Nat}[hx:Vq x p m](hm:m<=1000000)(n:Int)(h0:0<=n)(h1:n<=1000000000):bb 183 [.agg (eR x),I n] (.bool (decide (p < -(n:Rat)\/(n:Rat)<p))):=by
 have hw1:=bH (-n) ⟨J,J⟩;have hw2:=bH n ⟨J,J⟩;have z1:Zb (-n):=aL J J;have z2:Zb n:=aL J J;have hc1:=mt x (ofQ ((-n:Int):Rat)) J Y;have hc2:=mt x (ofQ (n:Rat)) J Y;have hn:IntKind.i64.wrap (0-n) = -n:=by rw[wrap_i64 J J];omega
 have e1:=dU (p-((-n:Int):Rat));have e2:=kf (p-(n:Rat));have en:(((-n:Int)):Rat) = -(n:Rat):=by push_cast;rfl
 have key:decide (p < -(n:Rat)\/(n:Rat)<p)=(decide (sgn (p-((-n:Int):Rat))<0)||decide (0<sgn (p-(n:Rat)))):=by
  rw[<-Bool.decide_or,decide_eq_decide,e1,e2,en];constructor
  .rintro(h|h)
   .left;grind
   .right;grind
  .rintro(h|h)
   .left;grind
   .right;grind
 rw[key];generalize sgn (p-((-n:Int):Rat))=g1,sgn (p-(n:Rat))=g2,ofQ ((-n:Int):Rat)=W1,ofQ (n:Rat)=W2 at *
 refine ay Proofs.Tryz.func183 ?_;refine dg 14 [5,6,7,8,9,10,11,12,13,14,15,16,17,4] ?_;refine H ?_;rw[hn];refine yd O O O hw1 O O ?_;refine aB hc1 ?_;refine fZ ?_ ?_<;>intro h
 .rw[h];clear h;exact rq
 .rw[h];clear h;refine G hw2 ?_;refine aB hc2 ?_;exact rq
def i4 {α:Type}(f:α->Int):List α->Int
 |[]=>0
 |s::r=>if f s=0 then i4 f r else f s
theorem vz {α:Type}(f:α->Int){l:List α}{i:Nat}{s:α}(h:l[i]?=some s):i4 f (l.drop i)=if f s=0 then i4 f (l.drop (i+1)) else f s:=by
 obtain⟨hl,rfl⟩:=bD h;rw[lR hl,i4]
theorem lK {α:Type}{f:α->Int}:∀ {l:List α},i4 f l=0->∀s∈l,f s=0
 |[],_,s,hs=>by cases hs
 |a::l,h,s,hs=>by
  rw[i4]at h;by_cases ha:f a=0
  .rw[if_pos ha]at h;rcases cw.1 hs with rfl|hs
   .exact ha
   .exact lK h s hs
  .rw[if_neg ha]at h;exact absurd h ha
def w8 (s:SR):Int:=if (s.x < -1000000\/1000000<s.x)\/(s.c.val < -((10000000:Int):Rat)\/((10000000:Int):Rat)<s.c.val) then 2 else eG s.k
def di (l:List SR):Int:=if 100<l.length then 8 else i4 w8 l
def lB (l:List SR):Prop:=(∀s∈l,s.Lim)/\l.length<=1000000000
theorem rL (l:List SR)(hl:lB l):bb 184 [.sl (l.map eS)] (I (di l)):=by
 have hml:(l.map eS).length=l.length:=aj;generalize hE:di l=E;rw[di]at hE;obtain⟨hs,hll⟩:=hl;refine ay Proofs.Tryz.func184 ?_;refine D ?_ ?_<;>intro h
 .have h1:=bK h;rw[if_pos J]at hE;subst hE;exact dL
 have h1:¬100<l.length:=by have h1:=cJ h;omega
 clear h;rw[if_neg h1]at hE;refine H ?_;refine ao (fun i:Nat=>i<=l.length/\i4 w8 (l.drop i)=E) (fun i=>[(9,.sl (l.map eS)),(10,I l.length),(11,I (i:Nat))]) (fun _=>[]) (fun i=>l.length-i) 0 ⟨aF _,by rw[fS];exact hE⟩ ⟨O,by rw[<-hml];rfl,O,bP⟩ ?_;intro i s ⟨hi,hF⟩;refine D ?_ ?_<;>intro h
 .have hlt:i<l.length:=cP h;clear h;obtain⟨x,hx⟩:=aK hlt;have hx':=hs x (bG hx);rw[vz _ hx]at hF;have hfa:=Fv x.x;have hbe:=pS x.c (hx:=hx'.c.v) Y 10000000 Y Y;have hcc:=fv x.k hx'.k;have hw:=im i;have hse:w8 x=w8 x:=O
  conv at hse=>rhs;rw[w8]
  generalize w8 x=se,eG x.k=ce at *
  by_cases hq1:x.x < -1000000\/1000000<x.x
  .rw[decide_eq_true hq1]at hfa;rw[if_pos (.inl hq1)]at hse;subst hse;rw[if_neg Y]at hF;subst hF;refine aZ hx ?_;refine aB hfa ?_;exact dL
  rw[decide_eq_false hq1]at hfa;by_cases hq2:x.c.val < -((10000000:Int):Rat)\/((10000000:Int):Rat)<x.c.val
  .rw[decide_eq_true hq2]at hbe;rw[if_pos (.inr hq2)]at hse;subst hse;rw[if_neg Y]at hF;subst hF;refine aZ hx ?_;refine aB hfa ?_;refine aB hbe ?_;exact dL
  rw[decide_eq_false hq2]at hbe;rw[if_neg (fun h=>h.elim hq1 hq2)]at hse;subst hse;refine aZ hx ?_;refine aB hfa ?_;refine aB hbe ?_;refine aB hcc ?_;refine D ?_ ?_<;>intro h
  .have h2:se≠0:=by simpa using h
   clear h;rw[if_neg h2]at hF;subst hF;exact dL
  .have h2:se=0:=by simpa using h
   clear h;rw[if_pos h2]at hF;refine H ?_;exact⟨i+1,⟨J,hF⟩,J,O,O,congrArg I hw,bP⟩
 .have hie:i=l.length:=cG h;clear h;rw[hie,iw,i4]at hF;subst hF;exact dL
theorem bY {α:Type}{l:List α}{k:Nat}{x:α}(hx:l[k]?=some x):l.take (k+1)=l.take k++[x]:=by
 rw[mL,hx];rfl
structure BR.Lim (b:BR):Prop where
 w:i64 b.w
 a:b.a.sz 12
 l:lB b.l
def df (b:BR):Int:=if (b.w<1\/1000000000<b.w)\/(b.a.val < -((1000000:Int):Rat)\/((1000000:Int):Rat)<b.a.val) then 2 else di b.l
theorem eP (b:BR)(hb:b.Lim):bb 118 [.agg (eB b)] (I (df b)):=by
 have hbe:=pS b.a (hx:=hb.a.v) Y 1000000 Y Y;have hc:=rL b.l hb.l;generalize hE:df b=E;rw[df]at hE;obtain⟨w,a,l⟩:=b;simp only at *
 generalize di l=ce at *
 by_cases h1:w<1
 .rw[if_pos (.inl (.inl h1))]at hE;subst hE;refine ay Proofs.Tryz.func118 ?_;refine fZ ?_ ?_<;>intro h
  .exact dL
  .exact absurd h1 (cJ h)
 by_cases h2:1000000000<w
 .rw[if_pos (.inl (.inr h2))]at hE;subst hE;refine ay Proofs.Tryz.func118 ?_;refine fZ ?_ ?_<;>intro h
  .exact dL
  .clear h;refine fZ ?_ ?_<;>intro h
   .exact dL
   .exact absurd h2 (cJ h)
 by_cases h3:a.val < -((1000000:Int):Rat)\/((1000000:Int):Rat)<a.val
 .rw[decide_eq_true h3]at hbe;rw[if_pos (.inr h3)]at hE;subst hE;refine ay Proofs.Tryz.func118 ?_;refine fZ ?_ ?_<;>intro h
  .exact dL
  .clear h;refine fZ ?_ ?_<;>intro h
   .exact dL
   .clear h;refine aB hbe ?_;exact dL
 .rw[decide_eq_false h3]at hbe;rw[if_neg (fun h=>h.elim (fun h=>h.elim h1 h2) h3)]at hE;subst hE;refine ay Proofs.Tryz.func118 ?_;refine fZ ?_ ?_<;>intro h
  .exact absurd (bK h) h1
  .clear h;refine fZ ?_ ?_<;>intro h
   .exact absurd (bK h) h2
   .clear h;refine aB hbe ?_;refine aB hc ?_;exact dL
theorem rm (l:List SR)(hl:lB l)(hc:di l=0)(f:FuncId)(caps:List PV)(hcaps:∃c,caps=[.dref c 0])(g:SR->RR)(hg:∀s∈l,bb f [.agg (eS s),caps.headD .nil] (.agg (eR (g s)))) :
  bb 197 [.sl (l.map eS),.clo f caps] (.tup [.sl ((l.map g).map eR),I 0]):=by
 have hck:=rL l hl;rw[hc]at hck;have hml:(l.map eS).length=l.length:=aj;obtain⟨cc,rfl⟩:=hcaps;simp only[List.headD_cons]at hg;refine ay Proofs.Tryz.func197 ?_;refine aB hck ?_;refine H ?_;refine ax (Ghost.nilreg (k:=7) (t:=7) 41 4 1 O O) ?_;have hrows:∀(k:Nat) x,l[k]?=some x->((l.take (k+1)).map g).map eR=((l.take k).map g).map eR++[eR (g x)]:=fun k x hx=>by rw[bY hx,bQ,bQ];rfl
 refine ao (fun k=>k<=l.length) (fun k=>[(1,.clo f [.dref cc 0]),(7,.als 7 (k+1) 0 (((l.take k).map g).map eR).length),(15,.sl (l.map eS)),(16,I l.length),(17,I k)]) (fun k=>[(7,k+1,⟨41,4,((l.take k).map g).map eR,1⟩)]) (fun k=>l.length-k) 0 (aF _) ⟨O,O,O,by rw[<-hml];rfl,ak⟩ ?_;intro k s hk;refine D ?_ ?_<;>intro h
 .have hlt:k<l.length:=cP h;clear h;obtain⟨x,hx⟩:=aK hlt;have hgx:=hg x (bG hx);have hw:IntKind.i64.wrap (((k:Nat):Int)+1)=((k+1:Nat):Int):=by have:=hl.2;rw[wrap_i64 J J];omega
  have hll:=hl.2;refine aZ hx ?_;refine G hgx ?_;refine H ?_;refine aC (b8 1 O O O O O O O O O O O ak O ?_);refine H ?_;refine aC (cQ 1 O O O O O O O O O O O ak jM O O aX aX ?_);refine H ?_;refine⟨k+1,hlt,J,O,?_,O,O,congrArg I hw,?_,bP⟩
  .rw[hrows k x hx];rfl
  .rw[hrows k x hx];rfl
 .have hge:k=l.length:=cG h;clear h;refine H ?_;exact CB O ak O ak (by rw[hge,bM];rfl)
theorem vA (s:SR)(hs:s.Lim)(hk:eG s.k=0)(a:AR){z t:Rat}{n m:Nat}[ha:Va a z t n m](hn:n+m<=90000):bb 198 [.agg (eS s),.dref (eA a) 0] (.agg (eR (ofQ (fQ s z t)))):=by
 have h1:=AL s hs hk a hn;generalize ofQ (fQ s z t)=X at *
 obtain⟨x,c,k⟩:=s;obtain⟨az,at'⟩:=a;try simp only at *
 refine ay Proofs.Tryz.func198 ?_;refine G h1 ?_;exact cy
theorem dD {l:List SR}(h:di l=0):∀s∈l,eG s.k=0:=by
 intro s hs;rw[di]at h;split at h
 .omega
 .have:=lK h s hs;rw[w8]at this;split at this
  .omega
  .exact this
def FL (l:List SR)(z t:Rat):List RR:=l.map fun s=>ofQ (fQ s z t)
theorem qd (l:List SR)(hl:lB l)(hc:di l=0)(a:AR){z t:Rat}{n m:Nat}[ha:Va a z t n m](hn:n+m<=90000):bb 122 [.sl (l.map eS),.agg (eA a)] (.tup [.sl ((FL l z t).map eR),I 0]):=by
 have h1:=rm l hl hc 198 [.dref (eA a) 0] ⟨_,O⟩ (fun s=>ofQ (fQ s z t)) fun s hs=>vA s (hl.1 s hs) (dD hc s hs) a hn;rw[<-FL]at h1;generalize FL l z t=X at *
 obtain⟨az,at'⟩:=a;refine ay Proofs.Tryz.func122 ?_;refine dN 1 ?_;refine ax (Ghost.data (k:=3) (t:=3) O O O O) ?_;refine G h1 ?_;exact cy
def uM (l:List SR):Prop:=l.length<=12/\∀s∈l,s.k.S.length<=8
theorem CD {s:SR}(hs:s.Lim)(h8:s.k.S.length<=8){z t:Rat}{n m:Nat}(hz:HQ z n)(ht:HQ t m):HQ (fQ s z t) (8*(n+m+60)+4):=by
 rw[fQ,jF];exact(bw s.k.S.length fun k _=>zU hs.k (Ap hs hz ht) k).mono (by have:=dr h8 (show 13+(n+(m+4)+1)+1+32+1<=n+m+60 by omega);omega)
def dS:SR:=⟨0,RR.zero,⟨[],[]⟩⟩
def bd (b:BR):Bd:={ N:=b.l.length,X:=fun i=>((b.l.getD i dS).x:Rat),C:=fun i=>(b.l.getD i dS).c.val,n:=fun i=>(b.l.getD i dS).k.S.length,S:=fun i=>(b.l.getD i dS).k.s,M:=fun i=>(b.l.getD i dS).k.m,w:=b.w,A:=b.a.val }
def fI (l:List SR)(z t:Rat)(i:Nat):Rat:=fQ (l.getD i dS) z t
def gI (l:List SR)(z t:Rat)(i:Nat):Rat:=fQ (l.getD i dS) z t*((l.getD i dS).x:Rat)
theorem bq {l:List SR}{i:Nat}(h:i<l.length):l.getD i dS∈l:=bG (br h)
theorem BK (l:List SR)(hl:lB l)(hf:uM l){z t:Rat}{n m:Nat}(hz:HQ z n)(ht:HQ t m)(hn:n+m<=100000):bb 300 [.sl (l.map eS),.sl ((FL l z t).map eR)] (.agg (eR (ofQ (am (fI l z t) l.length))++eR (ofQ (am (gI l z t) l.length)))):=by
 have hw0:=bH 0 ⟨Y,Y⟩;rw[show(((0:Int):Rat))=0 from O]at hw0;have hml:(l.map eS).length=l.length:=aj;have hFl:((FL l z t).map eR).length=l.length:=by simp[FL]
 have hFH:∀i,i<l.length->HQ (fI l z t i) (8*(n+m+60)+4):=fun i hi=>CD (hl.1 _ (bq hi)) (hf.2 _ (bq hi)) hz ht;have hGH:∀i,i<l.length->HQ (gI l z t i) (8*(n+m+60)+4+4):=fun i hi=>by
  have hx:=(hl.1 _ (bq hi)).x;have hx:Zb (l.getD i dS).x:=aL hx.1 hx.2;exact @HQ.mul _ _ _ 4 (hFH i hi) HQ.int
 have hB:∀i,i<=l.length->i*(8*(n+m+60)+4+4+1)+4<=12000000:=fun i hi=>by
  have:=hf.1;have:=dr (show i<=12 by omega) (show 8*(n+m+60)+4+4+1<=800489 by omega);omega
 refine ay Proofs.Tryz.func300 ?_;refine G hw0 ?_;refine G hw0 ?_;refine H ?_;refine ao (fun i:Nat=>i<=l.length) (fun i=>[(1,.sl ((FL l z t).map eR)),(4,.ptr 4 1 0 0),(5,.ptr 5 1 0 0),(11,.sl (l.map eS)),(12,I l.length),(13,I (i:Nat))])
  (fun i=>[(4,1,⟨237,8,[zN++zN],2⟩),(5,1,⟨237,8,[eR (ofQ (am (fI l z t) i))++eR (ofQ (am (gI l z t) i))],2⟩)]) (fun i=>l.length-i) 0 (aF _) ⟨O,O,O,O,by rw[<-hml];rfl,ak⟩ ?_
 intro i s hi;refine D ?_ ?_<;>intro h
 .have hlt:i<l.length:=cP h;clear h;have hx:=br (d:=dS) hlt;have hFi:(FL l z t)[i]?=some (ofQ (fI l z t i)):=by rw[FL,aV,hx];rfl
  have hxx:=(hl.1 _ (bq hlt)).x;have hzb:Zb (l.getD i dS).x:=aL hxx.1 hxx.2;have hw:IntKind.i64.wrap (((i:Nat):Int)+1)=((i+1:Nat):Int):=by have:=hf.1;rw[wrap_i64 J J];omega
  have hBi:=hB i hi;have v0:Vq (ofQ (fI l z t i)) (fI l z t i) (8*(n+m+60)+4):=Vq.ofQ (h:=hFH i hlt);have vg:Vq (ofQ (gI l z t i)) (gI l z t i) (8*(n+m+60)+4+4):=Vq.ofQ (h:=hGH i hlt);have v1:Vq (ofQ (am (fI l z t) i)) (am (fI l z t) i) (i*(8*(n+m+60)+4+1)+4):=Vq.ofQ (h:=bw i fun k hk=>hFH k J);have v2:Vq (ofQ (am (gI l z t) i)) (am (gI l z t) i) (i*(8*(n+m+60)+4+4+1)+4):=Vq.ofQ (h:=bw i fun k hk=>hGH k J);have h1:=dh (ofQ (am (fI l z t) i)) (ofQ (fI l z t i)) (hx:=v1) (hy:=v0) (by have:=dr (ji i) (show 8*(n+m+60)+4+1<=8*(n+m+60)+4+4+1 by omega);omega) J;have h2:=bH (l.getD i dS).x hxx;have h3:=gu (ofQ (fI l z t i)) (ofQ ((l.getD i dS).x:Rat)) (hx:=v0) J Y;have h4:=dh (ofQ (am (gI l z t) i)) (ofQ (gI l z t i)) (hx:=v2) (hy:=vg) J J;rw[show am (fI l z t) i+fI l z t i=am (fI l z t) (i+1) from O]at h1;rw[show am (gI l z t) i+gI l z t i=am (gI l z t) (i+1) from O]at h4;rw[show fI l z t i*((l.getD i dS).x:Rat)=gI l z t i from O]at h3;generalize hF1:ofQ (am (fI l z t) (i+1))=F1 at *
  generalize hG1:ofQ (am (gI l z t) (i+1))=G1 at *
  generalize ofQ (am (fI l z t) i)=F0,ofQ (am (gI l z t) i)=G0 at *
  refine aZ hx ?_;refine dg 8 [18,19,20,21,22,23,24,25] ?_;refine aZ hFi ?_;refine G h1 ?_;refine dg 12 [26,27,28,29,30,31,32,33,34,35,36,37] ?_;refine aZ hFi ?_;refine G h2 ?_;refine G h3 ?_;refine G h4 ?_;refine H ?_;refine⟨i+1,hlt,J,O,O,O,O,O,congrArg I hw,O,?_,bP⟩;show(_:Nat × Option Cont)=(1,some (Cont.mk 237 8 [eR (ofQ (am (fI l z t) (i+1)))++eR (ofQ (am (gI l z t) (i+1)))] 2));rw[hF1,hG1];rfl
 .have hie:i=l.length:=cG h;clear h;subst hie;exact cy
structure BR.Ok (b:BR):Prop where
 lim:b.Lim
 chk:df b=0
 few:uM b.l
theorem u4 {b:BR}(h:df b=0):1<=b.w/\b.w<=1000000000/\di b.l=0:=by
 rw[df]at h;split at h
 .omega
 .rename_i h1;exact⟨J,J,h⟩
theorem BR.Ok.chkL {b:BR}(h:b.Ok):di b.l=0:=(u4 h.chk).2.2
theorem Hs {l:List SR}(hl:lB l)(hf:uM l){z t:Rat}{n m:Nat}(hz:HQ z n)(ht:HQ t m):HQ (am (fI l z t) l.length) (96*(n+m+60)+200) :=
 (bw l.length fun i hi=>CD (hl.1 _ (bq hi)) (hf.2 _ (bq hi)) hz ht).mono (by have:=dr hf.1 (ji (8*(n+m+60)+4+1));omega)
theorem Hu {l:List SR}(hl:lB l)(hf:uM l){z t:Rat}{n m:Nat}(hz:HQ z n)(ht:HQ t m):HQ (am (gI l z t) l.length) (96*(n+m+60)+200) :=
 (bw (m:=8*(n+m+60)+4+4) l.length fun i hi=>by
  have hx:=(hl.1 _ (bq hi)).x;have hx:Zb (l.getD i dS).x:=aL hx.1 hx.2
  exact @HQ.mul _ _ _ 4 (CD (hl.1 _ (bq hi)) (hf.2 _ (bq hi)) hz ht) HQ.int).mono (by have:=dr hf.1 (ji (8*(n+m+60)+4+4+1));omega)
theorem mg (l:List SR)(hl:lB l)(hc:di l=0)(hf:uM l)(a:AR){z t:Rat}{n m:Nat}[ha:Va a z t n m](hn:n+m<=90000) :
  bb 258 [.sl (l.map eS),.agg (eA a)] (.tup [.agg (eR (ofQ (am (fI l z t) l.length))++eR (ofQ (am (gI l z t) l.length))),I 0]):=by
 have h1:=qd l hl hc a hn;have h2:=BK l hl hf ha.z.hq ha.t.hq J;generalize ofQ (am (fI l z t) l.length)=X1,ofQ (am (gI l z t) l.length)=X2,FL l z t=L at *
 obtain⟨az,at'⟩:=a;refine ay Proofs.Tryz.func258 ?_;refine G h1 ?_;refine G h2 ?_;exact cy
theorem Am {b:BR}(hb:b.Ok):HQ ((b.w:Rat)*b.a.val) 17:=by
 have hw:Zb b.w:=aL hb.lim.w.1 hb.lim.w.2;exact @HQ.mul _ _ 4 13 HQ.int hb.lim.a.v.hq
theorem p9 (b:BR)(hb:b.Ok)(a:AR){z t:Rat}{n m:Nat}[ha:Va a z t n m](hn:n+m<=60000):bb 189 [.agg (eB b),.agg (eA a)] (.agg (eR (ofQ ((bd b).e z t)))):=by
 have h1:=mg b.l hb.lim.l hb.chkL hb.few a J;have h2:=bH b.w hb.lim.w;have hw:Zb b.w:=aL hb.lim.w.1 hb.lim.w.2;have h3:=gu (ofQ (b.w:Rat)) b.a (hy:=hb.lim.a.v) Y Y;have v1:Vq (ofQ (am (gI b.l z t) b.l.length)) (am (gI b.l z t) b.l.length) (96*(n+1+(m+1)+60)+200):=Vq.ofQ (h:=Hu hb.lim.l hb.few ha.z.hq ha.t.hq);have v2:Vq (ofQ ((b.w:Rat)*b.a.val)) ((b.w:Rat)*b.a.val) 17:=Vq.ofQ (h:=Am hb);have h4:=mc (ofQ (am (gI b.l z t) b.l.length)) (ofQ ((b.w:Rat)*b.a.val)) (hx:=v1) (hy:=v2) J Y;rw[show am (gI b.l z t) b.l.length-(b.w:Rat)*b.a.val=(bd b).e z t from O]at h4;generalize ofQ ((bd b).e z t)=X0,ofQ (am (fI b.l z t) b.l.length)=X1,ofQ (am (gI b.l z t) b.l.length)=X2,ofQ ((b.w:Rat)*b.a.val)=X3,ofQ (b.w:Rat)=X4 at *
 obtain⟨w,ba,l⟩:=b;obtain⟨az,at'⟩:=a;simp only at *
 refine ay Proofs.Tryz.func189 ?_;refine G h1 ?_;refine dg 9 [14,15,16,17,18,19,20,21,22] ?_;refine G h2 ?_;refine G h3 ?_;refine G h4 ?_;exact cy
theorem HK {b:BR}(hb:b.Ok){z t:Rat}{n m:Nat}(hz:HQ z n)(ht:HQ t m):HQ ((bd b).e z t) (96*(n+m+60)+200+17+1):=@HQ.sub _ _ _ 17 (Hu hb.lim.l hb.few hz ht) (Am hb)
instance (b:Bd) (z t:Rat):Decidable (b.Bal z t):=inferInstanceAs (Decidable (_/\_))
theorem sQ (b:BR)(hb:b.Ok)(a:AR){z t:Rat}{n m:Nat}[ha:Va a z t n m](hn:n+m<=60000):bb 264 [.agg (eB b),.agg (eA a)] (.bool (decide ((bd b).Bal z t))):=by
 have h1:=mg b.l hb.lim.l hb.chkL hb.few a J;have h2:=bH b.w hb.lim.w;have hw:Zb b.w:=aL hb.lim.w.1 hb.lim.w.2;have v0:Vq (ofQ (am (fI b.l z t) b.l.length)) (am (fI b.l z t) b.l.length) (96*(n+1+(m+1)+60)+200):=Vq.ofQ (h:=Hs hb.lim.l hb.few ha.z.hq ha.t.hq);have h5:=mt (ofQ (am (fI b.l z t) b.l.length)) (ofQ (b.w:Rat)) (hx:=v0) J Y;have h3:=gu (ofQ (b.w:Rat)) b.a (hy:=hb.lim.a.v) Y Y;have v1:Vq (ofQ (am (gI b.l z t) b.l.length)) (am (gI b.l z t) b.l.length) (96*(n+1+(m+1)+60)+200):=Vq.ofQ (h:=Hu hb.lim.l hb.few ha.z.hq ha.t.hq);have v2:Vq (ofQ ((b.w:Rat)*b.a.val)) ((b.w:Rat)*b.a.val) 17:=Vq.ofQ (h:=Am hb);have h4:=mt (ofQ (am (gI b.l z t) b.l.length)) (ofQ ((b.w:Rat)*b.a.val)) (hx:=v1) (hy:=v2) J Y;have key:decide ((bd b).Bal z t)=(decide (sgn (am (fI b.l z t) b.l.length-(b.w:Rat))=0)&&decide (sgn (am (gI b.l z t) b.l.length-(b.w:Rat)*b.a.val)=0)):=by
  rw[<-Bool.decide_and,decide_eq_decide,l_,l_];show am (fI b.l z t) b.l.length=(b.w:Rat)/\am (gI b.l z t) b.l.length=(b.w:Rat)*b.a.val↔_;constructor
  .rintro⟨e1,e2⟩;rw[e1,e2];constructor<;>grind
  .rintro⟨e1,e2⟩;constructor<;>grind
 rw[key];generalize sgn (am (fI b.l z t) b.l.length-(b.w:Rat))=g1,sgn (am (gI b.l z t) b.l.length-(b.w:Rat)*b.a.val)=g2,ofQ (am (fI b.l z t) b.l.length)=X1,ofQ (am (gI b.l z t) b.l.length)=X2,ofQ ((b.w:Rat)*b.a.val)=X3,ofQ (b.w:Rat)=X4 at *
 obtain⟨w,ba,l⟩:=b;obtain⟨az,at'⟩:=a;simp only at *
 refine ay Proofs.Tryz.func264 ?_;refine G h1 ?_;refine dg 20 [14,15,16,17,18,19,20,21,22,23,24,25,26,27,28,29,30,31,32,4] ?_;refine G h2 ?_;refine aB h5 ?_;refine fZ ?_ ?_<;>intro h
 .rw[h];clear h;refine G h2 ?_;refine G h3 ?_;refine aB h4 ?_;exact rq
 .rw[h];clear h;exact rq
theorem z8 {S M:Nat->Rat}{n:Nat}{y:Rat}(h:∀k,k+1<n->S k<S (k+1)):∀m,m<=n->am (ij S M y) m=bU M (rD S y m)
 |0,_=>rfl
 |m+1,hm=>by
  rw[am,z8 h m J,rD,ij];by_cases hy:S m<=y
  .rw[if_pos hy,if_neg aW];have:rD S y m=m:=by
    cases m with
    |zero=>rfl
    |succ j =>
     have:=h j J;rw[rD,if_pos aW]
   rw[this,bU];grind
  .rw[if_neg hy,if_pos aW];grind
def A4 (c:CR)(y:Rat):Nat->RR
 |0=>ofQ 0
 |i+1=>if c.s i<y then c.M.getD i RR.zero else A4 c y i
theorem Dd {c:CR}(hc:c.Lim)(y:Rat):∀i,Vq (A4 c y i) (bU c.m (x6 c.s y i)) 12
 |0=>rI c hc 0
 |i+1=>by
  rw[A4,x6];split
  .exact vY c hc i
  .exact Dd hc y i
theorem qM (s:SR)(hs:s.Lim)(hk:eG s.k=0)(a:AR){z t:Rat}{n m:Nat}[ha:Va a z t n m](hn:n+m<=90000):bb 303 [.agg (eS s),.dref (eA a) 0] (.agg (eR (ofQ (bU s.k.m (rD s.k.s (yQ s z t) s.k.S.length))))):=by
 have h1:=nE s hs a J J;have v1:Vq (ofQ (yQ s z t)) (yQ s z t) (13+(n+1+(m+1+4)+1)+1):=Vq.ofQ (h:=Ap hs ha.z.hq ha.t.hq);have h2:=Bw s.k hs.k hk (ofQ (yQ s z t)) (hy:=v1) J;rw[Eg,z8 (fx hk).2.2.2 _ (aH)]at h2;generalize ofQ (bU s.k.m (rD s.k.s (yQ s z t) s.k.S.length))=X2,ofQ (yQ s z t)=X1 at *
 obtain⟨x,c,k⟩:=s;obtain⟨az,at'⟩:=a;try simp only at *
 refine ay Proofs.Tryz.func303 ?_;refine H ?_;refine cY [4] [9,10] aN ?_;refine G h1 ?_;refine G h2 ?_;exact cy
theorem r5 (s:SR)(hs:s.Lim)(hk:eG s.k=0)(a:AR){z t:Rat}{n m:Nat}[ha:Va a z t n m](hn:n+m<=90000):bb 305 [.agg (eS s),.dref (eA a) 0] (.agg (eR (A4 s.k (yQ s z t) s.k.S.length))):=by
 have h1:=nE s hs a J J;have v1:Vq (ofQ (yQ s z t)) (yQ s z t) (13+(n+1+(m+1+4)+1)+1):=Vq.ofQ (h:=Ap hs ha.z.hq ha.t.hq);have hw0:=bH 0 ⟨Y,Y⟩;rw[show(((0:Int):Rat))=0 from O]at hw0;have hSM:=(fx hk).2.1;have h40:=(fx hk).1;have hkl:=hs.k;obtain⟨x,c,k⟩:=s;obtain⟨az,at'⟩:=a;simp only at hSM h40 hkl;dsimp only;generalize yQ ⟨x,c,k⟩ z t=y at *
 generalize ofQ y=Y0 at *
 have hSl:(k.S.map eN).length=k.S.length:=aj;refine ay Proofs.Tryz.func305 ?_;refine G h1 ?_;refine G hw0 ?_;refine H ?_;refine ao (fun i:Nat=>i<=k.S.length) (fun i=>[(2,.ptr 2 1 0 0),(3,.ptr 3 1 0 0),(4,.ptr 4 1 0 0),(5,.ptr 5 1 0 0),(14,.sl (k.S.map eN)),(15,I k.S.length),(16,I (i:Nat))])
  (fun i=>[(2,1,⟨196,7,[eS ⟨x,c,k⟩],2⟩),(3,1,⟨41,4,[zN],2⟩),(4,1,⟨41,4,[eR Y0],2⟩),(5,1,⟨41,4,[eR (A4 k y i)],2⟩)]) (fun i=>k.S.length-i) 0 (aF _) ⟨O,O,O,O,O,by rw[<-hSl];rfl,ak⟩ ?_
 intro i s hi;refine D ?_ ?_<;>intro h
 .have hlt:i<k.S.length:=cP h;clear h;have hx:=br (d:=0) hlt;have hmx:=br (l:=k.M) (i:=i) (d:=RR.zero) J;have hxb:=oF hkl i;have hnum:=bH (k.S.getD i 0) hxb;have hzb:Zb (k.S.getD i 0):=aL hxb.1 hxb.2;have hcm:=mt (ofQ ((k.S.getD i 0:Int):Rat)) Y0 (hy:=v1) Y J;have hsl:=dU (k.s i-y);rw[show((k.S.getD i 0:Int):Rat)=k.s i from O]at hnum hcm;have hw:=im i;have hst:A4 k y (i+1)=if k.s i<y then k.M.getD i RR.zero else A4 k y i:=O
  generalize ofQ (k.s i)=N at *
  refine aZ hx ?_;refine dg 5 [21,22,23,24,25] ?_;refine G hnum ?_;refine aB hcm ?_;refine D ?_ ?_<;>intro h
  .have h3:k.s i<y:=by have:=hsl.1 (bK h);grind
   clear h;rw[if_pos h3]at hst;refine aZ hmx ?_;refine H ?_;refine⟨i+1,hlt,J,O,O,O,O,O,O,congrArg I hw,O,O,O,?_,bP⟩;show(_:Nat × Option Cont)=(1,some (Cont.mk 41 4 [eR (A4 k y (i+1))] 2));rw[hst];rfl
  .have h3:¬k.s i<y:=fun h2=>(cJ h) (hsl.2 aW);clear h;rw[if_neg h3]at hst;refine H ?_;refine⟨i+1,hlt,J,O,O,O,O,O,O,congrArg I hw,O,O,O,?_,bP⟩;show(_:Nat × Option Cont)=(1,some (Cont.mk 41 4 [eR (A4 k y (i+1))] 2));rw[hst];rfl
 .have hie:i=k.S.length:=cG h;clear h;subst hie;exact cy
theorem sv (a:AR):bb 260 [.agg (eA a)] (.clo 303 [.dref (eA a) 0]):=by
 obtain⟨az,at'⟩:=a;refine ay Proofs.Tryz.func260 ?_;exact cy
theorem vT (a:AR):bb 261 [.agg (eA a)] (.clo 305 [.dref (eA a) 0]):=by
 obtain⟨az,at'⟩:=a;refine ay Proofs.Tryz.func261 ?_;exact cy
def xI (l:List SR)(i:Nat):Rat:=((l.getD i dS).x:Rat)
def eK (a b c:RR):List PV:=eR a++(eR b++eR c)
theorem sD (l:List SR)(hl:lB l)(hf:uM l)(f:FuncId)(cc:List PV)(g:SR->RR)(κ:Nat->Rat)(hg:∀s∈l,bb f [.agg (eS s),.dref cc 0] (.agg (eR (g s))))(hv:∀i,i<l.length->Vq (g (l.getD i dS)) (κ i) 1000) :
  bb 263 [.sl (l.map eS),.clo f [.dref cc 0]] (.agg (eK (ofQ (am κ l.length)) (ofQ (am (fun i=>κ i*xI l i) l.length)) (ofQ (am (fun i=>κ i*xI l i*xI l i) l.length)))):=by
 have hw0:=bH 0 ⟨Y,Y⟩;rw[show(((0:Int):Rat))=0 from O]at hw0;have hml:(l.map eS).length=l.length:=aj;have hX:∀i,i<l.length->HQ (xI l i) 4:=fun i hi=>by
  have hx:=(hl.1 _ (bq hi)).x;have hx:Zb (l.getD i dS).x:=aL hx.1 hx.2;exact HQ.int
 have hK:∀i,i<l.length->HQ (κ i) 1001:=fun i hi=>(hv i hi).hq;have hC:∀i,i<l.length->HQ (κ i*xI l i) 1005:=fun i hi=>@HQ.mul _ _ 1001 4 (hK i hi) (hX i hi);have hP:∀i,i<l.length->HQ (κ i*xI l i*xI l i) 1009:=fun i hi=>@HQ.mul _ _ 1005 4 (hC i hi) (hX i hi);have h12:=hf.1;generalize hc:(fun i=>κ i*xI l i)=C at *
 generalize hp:(fun i=>κ i*xI l i*xI l i)=Pq at *
 have hCi:∀i,κ i*xI l i=C i:=fun i=>by rw[<-hc]
 have hPi:∀i,C i*xI l i=Pq i:=fun i=>by rw[<-hc,<-hp]
 simp only[hCi,hPi]at hC hP;clear hc hp;refine ay Proofs.Tryz.func263 ?_;refine G hw0 ?_;refine G hw0 ?_;refine G hw0 ?_;refine H ?_;refine ao (fun i:Nat=>i<=l.length) (fun i=>[(1,.clo f [.dref cc 0]),(4,.ptr 4 1 0 0),(5,.ptr 5 1 0 0),(13,.sl (l.map eS)),(14,I l.length),(15,I (i:Nat))])
  (fun i=>[(4,1,⟨325,12,[zN++(zN++zN)],2⟩),(5,1,⟨325,12,[eK (ofQ (am κ i)) (ofQ (am C i)) (ofQ (am Pq i))],2⟩)]) (fun i=>l.length-i) 0 (aF _) ⟨O,O,O,O,by rw[<-hml];rfl,ak⟩ ?_
 intro i s hi;refine D ?_ ?_<;>intro h
 .have hlt:i<l.length:=cP h;clear h;have hx:=br (d:=dS) hlt;have hxx:=(hl.1 _ (bq hlt)).x;have hgx:=hg _ (bq hlt);have hvi:=hv i hlt;have hw:=im i;have hwx:=bH (l.getD i dS).x hxx;rw[show((l.getD i dS).x:Rat)=xI l i from O]at hwx;have vx:Vq (ofQ (xI l i)) (xI l i) 4:=Vq.ofQ (h:=hX i hlt);have v1:Vq (ofQ (am κ i)) (am κ i) (i*(1001+1)+4):=Vq.ofQ (h:=bw i fun k hk=>hK k J);have v2:Vq (ofQ (am C i)) (am C i) (i*(1005+1)+4):=Vq.ofQ (h:=bw i fun k hk=>hC k J);have v3:Vq (ofQ (am Pq i)) (am Pq i) (i*(1009+1)+4):=Vq.ofQ (h:=bw i fun k hk=>hP k J);have w2:Vq (ofQ (C i)) (C i) 1005:=Vq.ofQ (h:=hC i hlt);have w3:Vq (ofQ (Pq i)) (Pq i) 1009:=Vq.ofQ (h:=hP i hlt);have a1:=dh (ofQ (am κ i)) (g (l.getD i dS)) (hx:=v1) (hy:=hvi) J Y;have m1:=gu (g (l.getD i dS)) (ofQ (xI l i)) (hx:=hvi) (hy:=vx) Y Y;rw[hCi]at m1;have a2:=dh (ofQ (am C i)) (ofQ (C i)) (hx:=v2) (hy:=w2) J Y;have m2:=gu (ofQ (C i)) (ofQ (xI l i)) (hx:=w2) (hy:=vx) Y Y;rw[hPi]at m2;have a3:=dh (ofQ (am Pq i)) (ofQ (Pq i)) (hx:=v3) (hy:=w3) J Y;rw[show am κ i+κ i=am κ (i+1) from O]at a1;rw[show am C i+C i=am C (i+1) from O]at a2;rw[show am Pq i+Pq i=am Pq (i+1) from O]at a3;have hout:eK (ofQ (am κ (i+1))) (ofQ (am C (i+1))) (ofQ (am Pq (i+1)))=eK (ofQ (am κ (i+1))) (ofQ (am C (i+1))) (ofQ (am Pq (i+1))):=O;generalize ofQ (am κ i)=K0,ofQ (am C i)=C0,ofQ (am Pq i)=P0 at *
  generalize hK1:ofQ (am κ (i+1))=K1 at *
  generalize hC1:ofQ (am C (i+1))=C1 at *
  generalize hP1:ofQ (am Pq (i+1))=P1 at *
  generalize ofQ (xI l i)=XI,ofQ (C i)=CI,ofQ (Pq i)=PI at *
  refine aZ hx ?_;refine G hgx ?_;refine G a1 ?_;refine dg 5 [27,28,29,30,31] ?_;refine G hwx ?_;refine G m1 ?_;refine G a2 ?_;refine dg 9 [37,38,39,40,41,42,43,44,45] ?_;refine G hwx ?_;refine G m2 ?_;refine G a3 ?_;refine H ?_;refine⟨i+1,hlt,J,O,O,O,O,O,congrArg I hw,O,?_,bP⟩;show(_:Nat × Option Cont)=(1,some (Cont.mk 325 12 [eK (ofQ (am κ (i+1))) (ofQ (am C (i+1))) (ofQ (am Pq (i+1)))] 2));rw[hK1,hC1,hP1];rfl
 .have hie:i=l.length:=cG h;clear h;subst hie;exact cy
theorem Av (a d:AR){z t:Rat}{n m:Nat}{z' t':Rat}{n' m':Nat}[ha:Va a z t n m][hd:Va d z' t' n' m'](h1:n<=8000000)(h2:m<=8000000)(h3:n'<=8000000)(h4:m'<=8000000):bb 265 [.agg (eA a),.agg (eA d)] (.agg (eA ⟨ofQ (z+z'),ofQ (t+t')⟩)):=by
 have a1:=dh a.z d.z (hx:=ha.z) (hy:=hd.z) J J;have a2:=dh a.t d.t (hx:=ha.t) (hy:=hd.t) J J;generalize ofQ (z+z')=X,ofQ (t+t')=Y0 at *
 obtain⟨az,at'⟩:=a;obtain⟨dz,dt⟩:=d;try simp only at *
 refine ay Proofs.Tryz.func265 ?_;refine dg 11 [5,6,7,8,9,10,11,12,13,14,15] ?_;refine G a1 ?_;refine G a2 ?_;exact cy
theorem fh {q:Rat}{n:Nat}(h:Vq (ofQ q) q n):HQ q n:=by
 refine⟨?_⟩;obtain⟨_,h1,h2⟩:=h;have e1:=cX (ofQ q).n.l;have e2:=cX (ofQ q).d.l;rw[show(ofQ q).n.l=aq q.num.natAbs from O]at e1 h1;rw[show(ofQ q).d.l=aq q.den from O]at e2 h2;rw[aO]at e1 e2;exact⟨eH e1 (dJ h1),eH e2 (dJ h2)⟩
def qA (d:Option (Rat × Rat)):PV:=match d with
 |none => .tup [.agg (zN++zN),.bool false]
 |some d => .tup [.agg (eA ⟨ofQ d.1,ofQ d.2⟩),.bool true]
theorem Bb (kh kc kp fo mo:RR){η c p u v:Rat}{a b:Nat}(hh:Vq kh η a)(hc:Vq kc c a)(hp:Vq kp p a)(hu:Vq fo u b)(hv:Vq mo v b)(ha:a<=20000)(hb:b<=7000000) :
  bb 262 [.agg (eK kh kc kp),.agg (eR fo),.agg (eR mo)] (qA (Bd.newt η c p u v)):=by
 have m1:=gu kh kp (hx:=hh) (hy:=hp) J J;have m2:=gu kc kc (hx:=hc) (hy:=hc) J J;have v1:Vq (ofQ (η*p)) (η*p) (a+1+(a+1)):=Vq.ofQ (h:=@HQ.mul _ _ (a+1) (a+1) hh.hq hp.hq);have v2:Vq (ofQ (c*c)) (c*c) (a+1+(a+1)):=Vq.ofQ (h:=@HQ.mul _ _ (a+1) (a+1) hc.hq hc.hq);have s1:=mc (ofQ (η*p)) (ofQ (c*c)) (hx:=v1) (hy:=v2) J J;have v3:Vq (ofQ (η*p-c*c)) (η*p-c*c) (a+1+(a+1)+(a+1+(a+1))+1):=Vq.ofQ (h:=@HQ.sub _ _ _ _ (fh v1) (fh v2));have sg:=qQ (ofQ (η*p-c*c)) (hx:=v3) J;have hs0:=l_ (η*p-c*c);by_cases h0:η*p-c*c=0
 .have hn:Bd.newt η c p u v=none:=by rw[Bd.newt,if_pos h0]
  rw[hn];have e0:=hs0.2 h0;rw[e0]at sg;generalize ofQ (η*p-c*c)=D0,ofQ (η*p)=D1,ofQ (c*c)=D2 at *
  clear hn;refine ay Proofs.Tryz.func262 ?_;refine H ?_;refine cp [(11,8),(12,8)] aN aN ?_;refine G m1 ?_;refine G m2 ?_;refine G s1 ?_;refine aB sg ?_;exact cy
 .have hn:Bd.newt η c p u v=some ((p*u-c*v)/(η*p-c*c),(η*v-c*u)/(η*p-c*c)):=by rw[Bd.newt,if_neg h0]
  rw[hn];have m3:=gu kp fo (hx:=hp) (hy:=hu) J J;have m4:=gu kc mo (hx:=hc) (hy:=hv) J J;have m5:=gu kh mo (hx:=hh) (hy:=hv) J J;have m6:=gu kc fo (hx:=hc) (hy:=hu) J J;have w3:Vq (ofQ (p*u)) (p*u) (a+1+(b+1)):=Vq.ofQ (h:=@HQ.mul _ _ (a+1) (b+1) hp.hq hu.hq);have w4:Vq (ofQ (c*v)) (c*v) (a+1+(b+1)):=Vq.ofQ (h:=@HQ.mul _ _ (a+1) (b+1) hc.hq hv.hq);have w5:Vq (ofQ (η*v)) (η*v) (a+1+(b+1)):=Vq.ofQ (h:=@HQ.mul _ _ (a+1) (b+1) hh.hq hv.hq);have w6:Vq (ofQ (c*u)) (c*u) (a+1+(b+1)):=Vq.ofQ (h:=@HQ.mul _ _ (a+1) (b+1) hc.hq hu.hq);have s2:=mc (ofQ (p*u)) (ofQ (c*v)) (hx:=w3) (hy:=w4) J J;have s3:=mc (ofQ (η*v)) (ofQ (c*u)) (hx:=w5) (hy:=w6) J J;have x2:Vq (ofQ (p*u-c*v)) (p*u-c*v) (a+1+(b+1)+(a+1+(b+1))+1):=Vq.ofQ (h:=@HQ.sub _ _ _ _ (fh w3) (fh w4));have x3:Vq (ofQ (η*v-c*u)) (η*v-c*u) (a+1+(b+1)+(a+1+(b+1))+1):=Vq.ofQ (h:=@HQ.sub _ _ _ _ (fh w5) (fh w6));have q2:=wt (ofQ (p*u-c*v)) (ofQ (η*p-c*c)) (hx:=x2) (hy:=v3) J J h0;have q3:=wt (ofQ (η*v-c*u)) (ofQ (η*p-c*c)) (hx:=x3) (hy:=v3) J J h0;have hsn:sgn (η*p-c*c)≠0:=fun e=>h0 (hs0.1 e);simp only[qA];generalize ofQ ((p*u-c*v)/(η*p-c*c))=R1,ofQ ((η*v-c*u)/(η*p-c*c))=R2,sgn (η*p-c*c)=gs,ofQ (η*p-c*c)=D0,ofQ (η*p)=D1,ofQ (c*c)=D2,ofQ (p*u-c*v)=D3,ofQ (η*v-c*u)=D4,ofQ (p*u)=D5,ofQ (c*v)=D6,ofQ (η*v)=D7,ofQ (c*u)=D8 at *
  clear hn;refine ay Proofs.Tryz.func262 ?_;refine H ?_;refine cp [(11,8),(12,8)] aN aN ?_;refine G m1 ?_;refine G m2 ?_;refine G s1 ?_;refine aB sg ?_;refine D ?_ ?_<;>intro h
  .exact absurd (bK h) hsn
  clear h;refine H ?_;refine cp [(9,9),(10,9)] aN aN ?_;refine G m3 ?_;refine G m4 ?_;refine G s2 ?_;refine H ?_;refine cp [(9,10),(10,10)] aN aN ?_;refine G m5 ?_;refine G m6 ?_;refine G s3 ?_;refine dg 7 [44,45,46,47,48,49,50] ?_;refine G q2 ?_;refine G q3 ?_;exact cy
def io (S M:Nat->Rat)(k:Nat):Rat:=M k*(S (k+1)-S k)
theorem wj (S M:Nat->Rat):∀m,k8 S M (m+1)=M m*S m-am (io S M) m
 |0=>by rw[k8,am,am,am,bU];grind
 |m+1=>by
  have:=wj S M m;rw[k8]at this ⊢;rw[am,this,am,bU,io];grind
theorem yJ {S M:Nat->Rat}{n:Nat}(h:bU M n=0):rl n S M=am (io S M) (n-1):=by
 cases n with
 |zero=>rw[rl,k8,am,am];grind
 |succ m =>
  rw[bU]at h;rw[rl,wj,h,show m+1-1=m by omega];grind
def Fe (c:CR):PV:=if bU c.m c.S.length=0 then .tup [.agg (eR (ofQ (rl c.S.length c.s c.m))),.bool true,I 0] else .tup [.agg zN,.bool false,I 0]
theorem sU {c:CR}(hc:c.Lim)(k:Nat):HQ (io c.s c.m k) (13+(4+4+1)):=by
 have h1:=oF hc k;have h2:=oF hc (k+1);have z1:Zb (c.S.getD k 0):=aL h1.1 h1.2;have z2:Zb (c.S.getD (k+1) 0):=aL h2.1 h2.2;exact @HQ.mul _ _ 13 9 (vY c hc k).hq (@HQ.sub _ _ 4 4 HQ.int HQ.int)
theorem sV (c:CR)(hc:c.Lim)(h0:eG c=0):bb 298 [.agg (eC c)] (Fe c):=by
 have hcc:=fv c hc;rw[h0]at hcc;obtain⟨h40,hSM,hrange,-⟩:=fx h0;have hz:=fV 0 Y Y;rw[show(((0:Int):Rat))=0 from O]at hz;have hSl:(c.S.map eN).length=c.S.length:=aj;generalize hR:Fe c=R;rw[Fe]at hR;refine ay Proofs.Tryz.func298 ?_;refine aB hcc ?_;refine G hz ?_;refine H ?_;refine ao (fun i:Nat=>i<=c.S.length/\(i=c.S.length->bU c.m c.S.length=0)) (fun i=>[(1,.ptr 1 1 0 0),(2,.ptr 2 1 0 0),(6,.ptr 6 1 0 0),(17,.sl (c.S.map eN)),(18,I c.S.length),(19,I (i:Nat))])
  (fun i=>[(1,1,⟨194,2,[eC c],2⟩),(2,1,⟨41,4,[zN],2⟩),(6,1,⟨41,4,[eR (ofQ (am (io c.s c.m) (min i (c.S.length-1))))],2⟩)]) (fun i=>c.S.length-i) 0 ⟨aF _,fun h=>by rw[<-h];rfl⟩ ⟨O,O,O,O,by rw[<-hSl];rfl,O,O,O,?_,bP⟩ ?_
 .show(_:Nat × Option Cont)=(1,some (Cont.mk 41 4 [eR (ofQ (am (io c.s c.m) (min 0 (c.S.length-1))))] 2));rw[Nat.zero_min];rfl
 intro i s ⟨hi,hlast⟩;refine D ?_ ?_<;>intro h
 .have hlt:i<c.S.length:=cP h;clear h;have hx:=br (d:=0) hlt;have hmx:=br (l:=c.M) (i:=i) (d:=RR.zero) J;have hw:=im i;by_cases hn:i+1<c.S.length
  .have hy:=br (d:=0) hn;have r1:=(hrange i hlt);have r2:=(hrange (i+1) hn);have hd:=An (c.S.getD (i+1) 0-c.S.getD i 0);have hnum:=fV (c.S.getD (i+1) 0-c.S.getD i 0) J J;have ed:((c.S.getD (i+1) 0-c.S.getD i 0:Int):Rat)=c.s (i+1)-c.s i:=by rw[CR.s,CR.s];push_cast;rfl
   rw[ed]at hnum;have z1:Zb (c.S.getD i 0):=aL J J;have z2:Zb (c.S.getD (i+1) 0):=aL J J;have v1:Vq (ofQ (c.s (i+1)-c.s i)) (c.s (i+1)-c.s i) 9:=Vq.ofQ (h:=@HQ.sub _ _ 4 4 HQ.int HQ.int);have m1:=gu (c.M.getD i RR.zero) (ofQ (c.s (i+1)-c.s i)) (hx:=vY c hc i) (hy:=v1) Y Y;have v2:Vq (ofQ (am (io c.s c.m) i)) (am (io c.s c.m) i) (i*(13+(4+4+1)+1)+4):=Vq.ofQ (h:=bw i fun k _=>sU hc k);have v3:Vq (ofQ (io c.s c.m i)) (io c.s c.m i) (13+(4+4+1)):=Vq.ofQ (h:=sU hc i);rw[show c.m i*(c.s (i+1)-c.s i)=io c.s c.m i from O]at m1;have a1:=dh (ofQ (am (io c.s c.m) i)) (ofQ (io c.s c.m i)) (hx:=v2) (hy:=v3) J Y;rw[show am (io c.s c.m) i+io c.s c.m i=am (io c.s c.m) (i+1) from O]at a1;rw[show min i (c.S.length-1)=i by omega];generalize ofQ (am (io c.s c.m) i)=K0 at *
   generalize hK1:ofQ (am (io c.s c.m) (i+1))=K1 at *
   generalize ofQ (io c.s c.m i)=T0,ofQ (c.s (i+1)-c.s i)=D0 at *
   refine aZ hx ?_;refine H ?_;rw[hw];refine cO O ?_ ?_<;>intro h
   .clear h;refine dg 17 [30,31,32,33,34,35,36,37,38,39,40,41,42,43,44,45,46] ?_;refine aZ hmx ?_;refine H ?_;rw[hw];refine Gb O O O O O O O hy O ?_;refine H ?_;rw[hd];refine yd O O O hnum O O ?_;refine G m1 ?_;refine G a1 ?_;refine H ?_;refine⟨i+1,⟨J,fun h=>by omega⟩,J,O,O,O,O,O,congrArg I hw,O,O,?_,bP⟩;show(_:Nat × Option Cont)=(1,some (Cont.mk 41 4 [eR (ofQ (am (io c.s c.m) (min (i+1) (c.S.length-1))))] 2));rw[show min (i+1) (c.S.length-1)=i+1 by omega,hK1];rfl
   .have:=cJ h;exfalso;omega
  .have hie:i+1=c.S.length:=J;have hiz:=y4 (c.M.getD i RR.zero) (hx:=vY c hc i) Y;have hbf:bU c.m c.S.length=c.m i:=by rw[<-hie];rfl
   rw[show min i (c.S.length-1)=i by omega];by_cases hm:c.m i=0
   .rw[decide_eq_true hm]at hiz;refine aZ hx ?_;refine H ?_;rw[hw];refine cO O ?_ ?_<;>intro h
    .have:=bK h;exfalso;omega
    .clear h;refine aZ hmx ?_;refine aB hiz ?_;refine H ?_;refine⟨i+1,⟨J,fun _=>by rw[hbf];exact hm⟩,J,O,O,O,O,O,congrArg I hw,O,O,?_,bP⟩;show(_:Nat × Option Cont)=(1,some (Cont.mk 41 4 [eR (ofQ (am (io c.s c.m) (min (i+1) (c.S.length-1))))] 2));rw[show min (i+1) (c.S.length-1)=i by omega];rfl
   .rw[decide_eq_false hm]at hiz;rw[if_neg (by rw[hbf];exact hm)]at hR;subst hR;refine aZ hx ?_;refine H ?_;rw[hw];refine cO O ?_ ?_<;>intro h
    .have:=bK h;exfalso;omega
    .clear h;refine aZ hmx ?_;refine aB hiz ?_;exact cy
 .have hie:i=c.S.length:=cG h;clear h;have hb:=hlast hie;rw[if_pos hb,yJ hb]at hR;subst hR;rw[show min i (c.S.length-1)=c.S.length-1 by omega];exact cy
theorem xD (w:Int)(hw:i64 w)(x:RR)(r:AR){p A B:Rat}{k n m:Nat}(hx:Vq x p k)(hr:Va r A B n m)(h1:k<=1000000)(h2:n<=1000000)(h3:m<=1000000):bb 256 [I w,.agg (eR x),.agg (eA r)] (.agg (eR (ofQ ((w:Rat)*(A+B*p))))):=by
 have zw:Zb w:=aL hw.1 hw.2;have d1:=bH w hw;have d2:=gu r.t x (hx:=hr.t) (hy:=hx) J J;have v2:Vq (ofQ (B*p)) (B*p) (m+1+(k+1)):=Vq.ofQ (h:=@HQ.mul _ _ (m+1) (k+1) hr.t.hq hx.hq);have d3:=dh r.z (ofQ (B*p)) (hx:=hr.z) (hy:=v2) J J;have v3:Vq (ofQ (A+B*p)) (A+B*p) (n+1+(m+1+(k+1))+1):=Vq.ofQ (h:=@HQ.add _ _ (n+1) _ hr.z.hq (fh v2));have d4:=gu (ofQ (w:Rat)) (ofQ (A+B*p)) (hy:=v3) Y J;generalize ofQ ((w:Rat)*(A+B*p))=X4,ofQ (A+B*p)=X3,ofQ (B*p)=X2,ofQ (w:Rat)=X1 at *
 obtain⟨az,at'⟩:=r;try simp only at *
 refine ay Proofs.Tryz.func256 ?_;refine dg 10 [7,8,9,10,11,12,13,14,15,16] ?_;refine G d1 ?_;refine G d2 ?_;refine G d3 ?_;refine G d4 ?_;exact cy
def cI (l:List SR)(i:Nat):Rat:=rl (l.getD i dS).k.S.length (l.getD i dS).k.s (l.getD i dS).k.m
def HU (l:List SR)(i:Nat):Prop:=bU (l.getD i dS).k.m (l.getD i dS).k.S.length=0
def yT (l:List SR)(A B:Rat)(i:Nat):Rat:=if 0<A+B*xI l i then cI l i*(A+B*xI l i) else 0
def jN (l:List SR)(A B:Rat)(n:Nat):Prop:=∀i,i<n->0<A+B*xI l i->HU l i
noncomputable def GM (l:List SR)(A B:Rat):PV:=@ite _ (jN l A B l.length) (Classical.propDecidable _) (.tup [.agg (eR (ofQ (am (yT l A B) l.length))),.bool true]) (.tup [.agg zN,.bool false])
theorem Cp {c:CR}(hc:c.Lim)(h8:c.S.length<=8)(h0:bU c.m c.S.length=0):HQ (rl c.S.length c.s c.m) 200:=by
 rw[yJ h0];exact(bw (c.S.length-1) fun k _=>sU hc k).mono J
theorem Hp {l:List SR}(hl:lB l)(hf:uM l){A B:Rat}{n m:Nat}(hA:HQ A n)(hB:HQ B m){i:Nat}(hi:i<l.length)(ha:0<A+B*xI l i->HU l i):HQ (yT l A B i) (200+(n+(m+4)+1)):=by
 rw[yT];split
 .rename_i h;have hx:=(hl.1 _ (bq hi)).x;have hx:Zb (l.getD i dS).x:=aL hx.1 hx.2;exact @HQ.mul _ _ 200 (n+(m+4)+1) (Cp (hl.1 _ (bq hi)).k (hf.2 _ (bq hi)) (ha h)) (@HQ.add _ _ n (m+4) hA (@HQ.mul _ _ m 4 hB HQ.int))
 .exact HQ.zero.mono J
theorem BU (l:List SR)(hl:lB l)(hf:uM l)(hck:di l=0)(r:AR){A B:Rat}{n m:Nat}(hr:Va r A B n m)(h2:n<=100000)(h3:m<=100000):bb 255 [.sl (l.map eS),.agg (eA r)] (GM l A B):=by
 have hw0:=bH 0 ⟨Y,Y⟩;rw[show(((0:Int):Rat))=0 from O]at hw0;have hml:(l.map eS).length=l.length:=aj;have hz:=hr.z.hq;have ht:=hr.t.hq;have h12:=hf.1;generalize hR:GM l A B=R;rw[GM]at hR;obtain⟨rz,rt⟩:=r;have hrz:=hr.z;have hrt:=hr.t;simp only at hrz hrt;refine ay Proofs.Tryz.func255 ?_;refine G hw0 ?_;refine H ?_;refine ao (fun i:Nat=>i<=l.length/\jN l A B i) (fun i=>[(3,.ptr 3 1 0 0),(4,.ptr 4 1 0 0),(6,.ptr 6 1 0 0),(14,.sl (l.map eS)),(15,I l.length),(16,I (i:Nat))])
  (fun i=>[(3,1,⟨48,8,[eA ⟨rz,rt⟩],2⟩),(4,1,⟨41,4,[zN],2⟩),(6,1,⟨41,4,[eR (ofQ (am (yT l A B) i))],2⟩)]) (fun i=>l.length-i) 0 ⟨aF _,fun i hi=>by omega⟩ ⟨O,O,O,O,by rw[<-hml];rfl,ak⟩ ?_
 intro i s ⟨hi,hall⟩;refine D ?_ ?_<;>intro h
 .have hlt:i<l.length:=cP h;clear h;have hx:=br (d:=dS) hlt;have hsl:=hl.1 _ (bq hlt);have h8:=hf.2 _ (bq hlt);have hkc:=dD hck _ (bq hlt);have hxx:=hsl.x;have hzb:Zb (l.getD i dS).x:=aL hxx.1 hxx.2;have hw:=im i;have e1:=bH (l.getD i dS).x hxx;rw[show((l.getD i dS).x:Rat)=xI l i from O]at e1;have vx:Vq (ofQ (xI l i)) (xI l i) 4:=Vq.ofQ (h:=HQ.int);have e2:=gu rt (ofQ (xI l i)) (hx:=hrt) (hy:=vx) J Y;have v2:Vq (ofQ (B*xI l i)) (B*xI l i) (m+1+4):=Vq.ofQ (h:=@HQ.mul _ _ (m+1) 4 ht HQ.int);have e3:=dh rz (ofQ (B*xI l i)) (hx:=hrz) (hy:=v2) J J;have v3:Vq (ofQ (A+B*xI l i)) (A+B*xI l i) (n+1+(m+1+4)+1):=Vq.ofQ (h:=@HQ.add _ _ (n+1) _ hz (fh v2));have e4:=qQ (ofQ (A+B*xI l i)) (hx:=v3) J;have hsg:=Eb (A+B*xI l i);by_cases hd:0<A+B*xI l i
  .have hsn:¬sgn (A+B*xI l i)<=0:=fun h=>by have:=hsg.1 h;grind
   have e5:=sV (l.getD i dS).k hsl.k hkc;rw[Fe]at e5;generalize sgn (A+B*xI l i)=g at *
   by_cases hlim:HU l i
   .rw[if_pos (show bU (l.getD i dS).k.m (l.getD i dS).k.S.length=0 from hlim)]at e5;have hcl:=Cp hsl.k h8 hlim;rw[show rl (l.getD i dS).k.S.length (l.getD i dS).k.s (l.getD i dS).k.m=cI l i from O]at e5 hcl;have vc:Vq (ofQ (cI l i)) (cI l i) 200:=Vq.ofQ (h:=hcl);have e6:=gu (ofQ (cI l i)) (ofQ (A+B*xI l i)) (hx:=vc) (hy:=v3) Y J;have hall':jN l A B (i+1):=fun j hj hp=>by
     by_cases hje:j=i
     .subst hje;exact hlim
     .exact hall j J hp
    have v6:Vq (ofQ (cI l i*(A+B*xI l i))) (cI l i*(A+B*xI l i)) (200+(n+1+(m+1+4)+1)):=Vq.ofQ (h:=@HQ.mul _ _ 200 _ hcl (fh v3));have v7:Vq (ofQ (am (yT l A B) i)) (am (yT l A B) i) (i*(200+(n+1+(m+1+4)+1)+1)+4):=Vq.ofQ (h:=bw i fun k hk=>Hp hl hf hz ht J (hall k hk));have e7:=dh (ofQ (am (yT l A B) i)) (ofQ (cI l i*(A+B*xI l i))) (hx:=v7) (hy:=v6) (by have:=dr (show i<=12 by omega) (show 200+(n+1+(m+1+4)+1)+1<=200208 by omega);omega) J;rw[show am (yT l A B) i+cI l i*(A+B*xI l i)=am (yT l A B) (i+1) by rw[am,yT,if_pos hd]]at e7;generalize ofQ (am (yT l A B) i)=K0 at *
    generalize hK1:ofQ (am (yT l A B) (i+1))=K1 at *
    generalize ofQ (cI l i*(A+B*xI l i))=P0,ofQ (cI l i)=C0,ofQ (A+B*xI l i)=D0,ofQ (B*xI l i)=D1,ofQ (xI l i)=D2 at *
    refine aZ hx ?_;refine dN 5 ?_;refine ax (jW 9) ?_;refine cp [(9,9),(10,9)] aN aN ?_;refine G e1 ?_;refine G e2 ?_;refine G e3 ?_;refine aB e4 ?_;refine D ?_ ?_<;>intro h
    .exact absurd (bK h) hsn
    clear h;refine G e5 ?_;refine dg 5 [42,43,44,45,46] ?_;refine G e6 ?_;refine G e7 ?_;refine H ?_;refine⟨i+1,⟨J,hall'⟩,J,O,O,O,O,O,congrArg I hw,O,O,?_,bP⟩;show(_:Nat × Option Cont)=(1,some (Cont.mk 41 4 [eR (ofQ (am (yT l A B) (i+1)))] 2));rw[hK1];rfl
   .rw[if_neg (show ¬bU (l.getD i dS).k.m (l.getD i dS).k.S.length=0 from hlim)]at e5;rw[if_neg (fun h=>hlim (h i hlt hd))]at hR;subst hR;generalize ofQ (A+B*xI l i)=D0,ofQ (B*xI l i)=D1,ofQ (xI l i)=D2 at *
    refine aZ hx ?_;refine dN 5 ?_;refine ax (jW 9) ?_;refine cp [(9,9),(10,9)] aN aN ?_;refine G e1 ?_;refine G e2 ?_;refine G e3 ?_;refine aB e4 ?_;refine D ?_ ?_<;>intro h
    .exact absurd (bK h) hsn
    clear h;refine G e5 ?_;exact cy
  .have hsn:sgn (A+B*xI l i)<=0:=hsg.2 aW;have hall':jN l A B (i+1):=fun j hj hp=>by
    by_cases hje:j=i
    .subst hje;exact absurd hp hd
    .exact hall j J hp
   have hsum:am (yT l A B) (i+1)=am (yT l A B) i:=by rw[am,yT,if_neg hd];grind
   generalize sgn (A+B*xI l i)=g,ofQ (A+B*xI l i)=D0,ofQ (B*xI l i)=D1,ofQ (xI l i)=D2 at *
   refine aZ hx ?_;refine dN 5 ?_;refine ax (jW 9) ?_;refine cp [(9,9),(10,9)] aN aN ?_;refine G e1 ?_;refine G e2 ?_;refine G e3 ?_;refine aB e4 ?_;refine D ?_ ?_<;>intro h
   .clear h;refine H ?_;refine⟨i+1,⟨J,hall'⟩,J,O,O,O,O,O,congrArg I hw,O,O,?_,bP⟩;show(_:Nat × Option Cont)=(1,some (Cont.mk 41 4 [eR (ofQ (am (yT l A B) (i+1)))] 2));rw[hsum];rfl
   .exact absurd hsn (cJ h)
 .have hie:i=l.length:=cG h;clear h;subst hie;rw[if_pos hall]at hR;subst hR;exact cy
noncomputable def qK (b:BR)(A B:Rat):Bool:=@decide (jN b.l A B b.l.length/\am (yT b.l A B) b.l.length<(b.w:Rat)*(A+B*b.a.val)) (Classical.propDecidable _)
theorem oD (b:BR)(hb:b.Ok)(r:AR){A B:Rat}{n m:Nat}(hr:Va r A B n m)(h2:n<=90000)(h3:m<=90000):bb 186 [.agg (eB b),.agg (eA r)] (.bool (qK b A B)):=by
 have h1:=BU b.l hb.lim.l hb.few hb.chkL r hr J J;have zw:Zb b.w:=aL hb.lim.w.1 hb.lim.w.2;have hd:=xD b.w hb.lim.w b.a r hb.lim.a.v hr Y J J;have vd:Vq (ofQ ((b.w:Rat)*(A+B*b.a.val))) ((b.w:Rat)*(A+B*b.a.val)) (4+(n+1+(m+1+13)+1)):=Vq.ofQ (h:=@HQ.mul _ _ 4 _ HQ.int (@HQ.add _ _ (n+1) _ hr.z.hq (@HQ.mul _ _ (m+1) 13 hr.t.hq hb.lim.a.v.hq)));rw[GM]at h1;by_cases hall:jN b.l A B b.l.length
 .rw[if_pos hall]at h1;have h12:=hb.few.1;have hs:=bw (m:=200+(n+1+(m+1+4)+1)) b.l.length fun k hk=>Hp hb.lim.l hb.few hr.z.hq hr.t.hq hk (hall k hk);have vs:Vq (ofQ (am (yT b.l A B) b.l.length)) (am (yT b.l A B) b.l.length) (b.l.length*(200+(n+1+(m+1+4)+1)+1)+4):=Vq.ofQ (h:=hs);have hc:=mt (ofQ (am (yT b.l A B) b.l.length)) (ofQ ((b.w:Rat)*(A+B*b.a.val))) (hx:=vs) (hy:=vd) (by have:=dr (show b.l.length<=12 by omega) (show 200+(n+1+(m+1+4)+1)+1<=180210 by omega);omega) J;have hsl:=dU (am (yT b.l A B) b.l.length-(b.w:Rat)*(A+B*b.a.val));have key:qK b A B=decide (sgn (am (yT b.l A B) b.l.length-(b.w:Rat)*(A+B*b.a.val))<0):=by
   rw[qK,decide_eq_decide,hsl];constructor
   .intro h;have:=h.2;grind
   .intro h;exact⟨hall,aW⟩
  rw[key];generalize sgn (am (yT b.l A B) b.l.length-(b.w:Rat)*(A+B*b.a.val))=g,ofQ (am (yT b.l A B) b.l.length)=S,ofQ ((b.w:Rat)*(A+B*b.a.val))=D0 at *
  obtain⟨w,ba,l⟩:=b;obtain⟨rz,rt⟩:=r;try simp only at *
  refine ay Proofs.Tryz.func186 ?_;refine G h1 ?_;refine dg 13 [14,15,16,17,18,19,20,21,22,23,24,25,4] ?_;refine G hd ?_;refine aB hc ?_;exact rq
 .rw[if_neg hall]at h1;have key:qK b A B=false:=by
   unfold qK;exact @decide_eq_false _ (Classical.propDecidable _) (fun h=>hall h.1)
  rw[key];clear hd vd;obtain⟨w,ba,l⟩:=b;obtain⟨rz,rt⟩:=r;try simp only at *
  refine ay Proofs.Tryz.func186 ?_;refine G h1 ?_;refine dg 13 [14,15,16,17,18,19,20,21,22,23,24,25,4] ?_;exact rq
end Go.Pv
namespace Go.Pv
open Go.RowKit Go.Sort
section
variable {P:Program}{L:b9}{C:Ctx}{γ:Nat->Option Nat}{s:St}{a:Act}{w w':World}
structure Chg (w w':World) (b:Nat) (T:TypeId) (cur:Array Value):Prop where
 os:w'.os=w.os
 tape:w'.tape=w.tape
 output:w'.output=w.output
 size:w.heap.size<=w'.heap.size
 other:∀b',b'≠b->b'<w.heap.size->w'.heap[b']? = w.heap[b']?
 at_:w'.heap[b]?=some (.cells cur T (0,0))
theorem Ff (h:Sim C γ s a w){k g b:Nat}{c c':Cont}{cur cur':Array Value}(ho:s.own k=(g,some c))(hb:γ k=some b)(hh:w.heap[b]?=some (.cells cur c.ty (0,0)))(hsz:cur'.size=cur.size)
  (hc:Chg w w' b c.ty cur') (h1:c'.ty=c.ty) (h2:c'.sz=c.sz) (h3:c.rows.length<=c'.rows.length) (hs:SiteOk (ai C γ (s.setOwn k g (some c')) (w.setRow b cur')) (some b) c'):Sim C γ (s.setOwn k g (some c')) a w':=by
 refine(sE h ho hb hh hsz h1 h2 h3 hs).ext ⟨hc.os,hc.tape,hc.output,by simpa using hc.size,fun b' hb'=>?_⟩;have hb'':b'<w.heap.size:=by simpa using hb'
 by_cases he:b'=b
 .subst he;rw[hc.at_,setRow_heap w b' cur cur' c.ty (0,0) hh]
 .rw[hc.other b' he hb'',setRow_other w b b' cur' he]
theorem yK {α:Type}[Inhabited α]{e:α->Value}{q b:Nat}{d':Array α}{os:Array Obj}{T:TypeId}{cur:Array Value}(hh:w.heap[b]?=some (.cells cur T (0,0)))(hw:w'=grow (putRow e (Sort.ahead w q) b 0 d') os):Chg w w' b T (putCells e 0 d' cur):=by
 have hlt:b<w.heap.size:=(eO hh).1;subst hw;refine⟨O,O,O,aj,fun b' hne hb'=>?_,?_⟩
 .rw[heap_grow_old _ _ (by simpa using hb')];show(w.heap.modify b _)[b']? = _;rw[mI,if_neg (Ne.symm hne)]
 .rw[heap_grow_old _ _ (by simpa using hlt)];show(w.heap.modify b _)[b]? = _;rw[mI,if_pos O,hh];rfl
theorem lu {α:Type}[Inhabited α](e:α->Value)(off:Nat)(d:Array α)(c:Array Value):(putCells e off d c).size=c.size:=by simp[putCells]
theorem lw {α:Type}[Inhabited α](e:α->Value)(d:Array α)(c:Array Value)(h:d.size<=c.size):(putCells e 0 d c).toList.take d.size=d.toList.map e:=by
 apply List.ext_getElem
 .simp[putCells];omega
 intro i h1 h2;have hi:i<d.size:=by simpa using h2
 simp[putCells,hi]
theorem x9 {E:Env}{k:Nat}{c:PV}(h:j6 c=true):KRep E k c (scv c):=by
 match k with
 |0=>exact(gV h _ _).1
 |1=>exact(gV h _ _).1
 |_+2=>exact .d (gV h _ _).1
def jJ {α:Type}(enc:α->List PV)(l:List α):List Value:=l.flatMap fun x=>(enc x).map scv
theorem AK {α:Type}{enc:α->List PV}{sz:Nat}(h:∀x,(enc x).length=sz)(l:List α):(jJ enc l).length=l.length*sz:=by
 induction l with
 |nil=>simp[jJ]
 |cons x l ih=>simp only[jJ,js,bT,aM,eJ,h,be,dH]at ih ⊢;omega
theorem mA {α:Type}{enc:α->List PV}{sz:Nat}(h:∀x,(enc x).length=sz):∀(l:List α) (i j:Nat) (x:α) (c:PV),l[i]?=some x->(enc x)[j]?=some c->(jJ enc l)[i*sz+j]?=some (scv c)
 |[],i,j,x,c,h1,_=>by simp at h1
 |y::l,0,j,x,c,h1,h2=>by
  simp at h1;subst h1;have hj:=(bD h2).1;rw[jJ,js,fG aX,aV,fT,aG,h2];rfl
 |y::l,i+1,j,x,c,h1,h2=>by
  have ih:=mA h l i j x c (by simpa using h1) h2;rw[jJ,js,dj (by rw[aM,h,be];omega),aM,h];rw[show(i+1)*sz+j-sz=i*sz+j by rw[be];omega];exact ih
theorem Ac {l m:List Value}{n i:Nat}{v:Value}(h:l.take n=m)(hi:m[i]?=some v):l[i]?=some v:=by
 rw[<-h,bE]at hi;split at hi
 .exact hi
 .cases hi
def JH (ro:Option Nat)(a:Option Addr)(cap:Nat):Value:=match ro with
 |none => .tuple #[]
 |some n => .slice a n cap
def J9 (ro:Option Nat)(k g:Nat):PV:=match ro with
 |none => .tup []
 |some n => .als k g 0 n
variable [Globs]
theorem qS {α:Type}{enc:α->List PV}{l:List α}{d k g m sz kd f:Nat}{T ty:TypeId}{pos:String}{af:Array Edge}{x fop:Operand}{more:List Operand}{mv:List FuncId}{tys:Array TypeId}{K:St->Prop}(ro:Option Nat)(Q:List α->Prop)
  (hpl:∀x,(enc x).all j6=true) (hlen:∀x,(enc x).length=sz) (hsz:0<sz) (hf:s.ev fop=.clo f []) (hx:s.ev x=.als k g 0 m) (hm:m=l.length) (ho:s.own k=(g,some ⟨T,sz,l.map enc,kd⟩)) (hmore:more.map s.ev=mv.map fun f => .clo f []) (hcal:f_ P f) (hro:∀n,ro=some n->n<=l.length)
  (h0:l=[]->Q []/\∀w:World,Globs.glob w->Calls P f (Value.slice none 0 0::mv.map fun f => .func (.func f) #[] #[]).toArray w fun e w'=>e=.returned (JH ro none 0)/\Below w.heap.size w w')
  (hcall:∀(w:World) (b cap:Nat) (cur:Array Value),w.heap[b]?=some (.cells cur T (0,0))->l.length<=cap->l.length*sz<=cur.size->cur.toList.take (l.length*sz)=jJ enc l->Globs.glob w ->
   Calls P f (Value.slice (some ⟨b,0,none⟩) l.length cap::mv.map fun f => .func (.func f) #[] #[]).toArray w fun e w'=>∃l' cur',Q l'/\l'.length=l.length/\e=.returned (JH ro (some ⟨b,0,none⟩) cap)/\Chg w w' b T cur'/\cur'.size=cur.size/\cur'.toList.take (l.length*sz)=jJ enc l')
  (h:∀l',Q l'->l'.length=l.length->K ((s.setOwn k g (some ⟨T,sz,l'.map enc,kd⟩)).putR d (J9 ro k g))):Sm P L s ⟨some d,.call ⟨.value fop,(x::more).toArray,tys⟩,ty,pos,af,none⟩ K:=by
 intro C a w Qp hG hs hN;obtain⟨γ,hs⟩:=hs;have hfv:=hs.ev fop;rw[hf]at hfv;obtain⟨vs,hv,hl,_⟩:=hfv.clo_inv;have hvs:vs=[]:=dO (by simpa using hl.symm);subst hvs;have hmv:more.map a.eval=mv.map fun f=>Value.func (.func f) #[] #[]:=by
  clear h0 hcall h
  induction more generalizing mv with
  |nil=>cases mv with
   |nil=>rfl
   |cons f mv=>simp at hmore
  |cons y more ih=>cases mv with
   |nil=>simp at hmore
   |cons f mv =>
    simp only[db,List.cons.injEq]at hmore ⊢;have hy:=hs.ev y;rw[hmore.1]at hy;obtain⟨vs,hv,hl,_⟩:=hy.clo_inv;have hvs:vs=[]:=dO (by simpa using hl.symm);subst hvs;exact⟨hv,ih hmore.2 hN⟩
 have hxr:=hs.ev x;rw[hx]at hxr;have hals:=hs.als_at hxr ho;unfold Oper.wp;rw[ke (f:=f) O hv hcal,Oper.upon_enter];simp only[db,cu,hmv];have hglob:=hG.glob _ hs.below;rcases hals with⟨h1,_,h3,h4⟩|⟨b,cap,cur,h1,h2,h3,h4,h5,h6,h7⟩
 .have hnil:l=[]:=dO J;rw[h4];refine((h0 hnil).2 w hglob).mono ?_;rintro e w' ⟨rfl,hbel⟩;have hs':=hs.ext hbel;have hst:s=s.setOwn k g (some ⟨T,sz,l.map enc,kd⟩):=by
   have:s.own=(s.setOwn k g (some ⟨T,sz,l.map enc,kd⟩)).own:=by
    funext r;by_cases hr:r=k
    .subst hr;rw[ah,ho]
    .rw[ar hr]
   cases s;simp only[St.setOwn]at this ⊢;rw[<-this]
  have hKs:=h [] (h0 hnil).1 (by rw[hnil]);rw[hnil]at hst;rw[<-hst]at hKs;refine⟨_,⟨γ,hs'.put (d:=some d) hN ?_⟩,hKs⟩;cases ro with
  |none=>exact .tup [] [] rfl fun i c v e=>by simp at e
  |some n =>
   have hn:=hro n O;rw[hnil]at hn;have hn0:n=0:=by simpa using hn
   subst hn0;refine .als (by simp[ai,ho]) fun _ l2 hl2=>?_;simp only[ai,ho,ca,aJ]at hl2;subst hl2;exact .inl ⟨h1,O,O,O⟩
 .subst hm;rw[h2];simp only[fT];have h3:w.heap[b]?=some (.cells cur T (0,0)):=h3;have hz:(0+cap)*sz=cap*sz:=by rw[aG]
  have hcs:cur.size=cap*sz:=by rw[<-hz];exact h6
  have hle:l.length*sz<=cur.size:=by rw[hcs];exact cm _ h4
  obtain⟨cur0,g1,_,_,g4,g5⟩:=hs.site_at ho h1 hsz;have g1:w.heap[b]?=some (.cells cur0 T (0,0)):=g1;rw[h3]at g1;simp only[aJ,Obj.cells.injEq,and_true]at g1;subst g1;have hflat:cur.toList.take (l.length*sz)=jJ enc l:=by
   apply fP;intro q;by_cases hq:q<l.length*sz
   .have hqi:q/sz<l.length:=(oY hsz).2 hq;have hqj:q%sz<sz:=d0 _ hsz;have hqe:q/sz*sz+q%sz=q:=by rw[b0];exact jb q sz
    have hx1:l[q/sz]?=some l[q/sz]:=aQ hqi;have hx2:(enc l[q/sz])[q%sz]?=some ((enc l[q/sz])[q%sz]'(by rw[hlen];exact hqj)):=aQ _;obtain⟨v,e1,_,e3⟩:=g5 (q/sz) (q%sz) (enc l[q/sz]) _ (by rw[aV,hx1];rfl) hx2;have hpv:=bx.1 (hpl l[q/sz]) _ (bG hx2);have hv:=sf hpv (e3.rep aI);have:=mA hlen l (q/sz) (q%sz) _ _ hx1 hx2;rw[hqe]at this e1;rw[this,bE,if_pos hq,dq,e1,hv]
   .rw[bE,if_neg hq,dF (by rw[AK hlen];omega)]
  refine(hcall w b cap cur h3 h4 hle hflat hglob).mono ?_;rintro e w' ⟨l',cur',hQ,hl',rfl,hchg,hcz,hfl⟩;have hsite:SiteOk (ai C γ (s.setOwn k g (some ⟨T,sz,l'.map enc,kd⟩)) (w.setRow b cur')) (some b) ⟨T,sz,l'.map enc,kd⟩:=by
   refine⟨(fun e=>by cases e),(fun b' _ hz=>by simp only at hz;omega),(fun b' _ hz=>by simp only at hz;omega),fun b' hb' _=>?_⟩;simp at hb';subst hb';refine⟨cur',setRow_heap w b cur cur' T (0,0) h3,hsz,by simp only[aM];rw[hl',hcz];exact hle,fun row hr=>?_,fun i j row pv e1 e2=>?_⟩
   .simp only[bF]at hr;obtain⟨y,_,rfl⟩:=hr;exact hlen y
   .simp only[aV,jk]at e1;obtain⟨y,hy,rfl⟩:=e1;have hpv:=bx.1 (hpl y) _ (bG e2);have:=Ac hfl (mA hlen l' i j y pv hy e2);exact⟨scv pv,by rw[<-dq];exact this,(gV hpv w (fun _=>True)).2,x9 hpv⟩
  have hsim:=Ff (c':=⟨T,sz,l'.map enc,kd⟩) hs ho h1 h3 hcz hchg O O (by simp[hl']) hsite;refine⟨_,⟨γ,hsim.put (d:=some d) hN ?_⟩,h l' hQ hl'⟩;cases ro with
  |none=>exact .tup [] [] rfl fun i c v e=>by simp at e
  |some n =>
   have hn:=hro n O;refine .als (by simp[ai,ah]) fun _ l2 hl2=>?_;simp only[ai,ah,ca,aJ]at hl2;subst hl2;exact .inr ⟨b,cap,cur',h1,by simp[JH],hchg.at_,J,h5,by rw[hcz];exact h6,by simp;omega⟩
end
end Go.Pv
namespace Go.Proofs
open Go.Shelf
def Tryz.lays189_ren:Go.Shelf.Ren:=⟨fun|189=>109|125=>181|257=>180|128=>251|129=>252|294=>242|295=>243|296=>244|297=>245|298=>246|299=>247|216=>248|300=>249|301=>250|328=>293|329=>294|330=>295|331=>296|332=>297|215=>290|343=>313|n=>n,fun|28=>57|3=>3|46=>255|0=>0|51=>307|53=>217|4=>4|183=>301|182=>300|131=>231|5=>5|9=>9|218=>344|222=>348|228=>358|229=>359|n=>n,fun|n=>n⟩
theorem Tryz.lays189:Go.Proofs.Lays.n189 Tryz.prog Tryz.lays189_ren:={
 mixed:=by kernel_rfl
 f125:=Tryz.func181.trans (congrArg some (by kernel_rfl))
 f128:=Tryz.func251.trans (congrArg some (by kernel_rfl))
 f129:=Tryz.func252.trans (congrArg some (by kernel_rfl))
 f189:=Tryz.func109.trans (congrArg some (by kernel_rfl))
 f215:=Tryz.func290.trans (congrArg some (by kernel_rfl))
 f216:=Tryz.func248.trans (congrArg some (by kernel_rfl))
 f257:=Tryz.func180.trans (congrArg some (by kernel_rfl))
 f294:=Tryz.func242.trans (congrArg some (by kernel_rfl))
 f295:=Tryz.func243.trans (congrArg some (by kernel_rfl))
 f296:=Tryz.func244.trans (congrArg some (by kernel_rfl))
 f297:=Tryz.func245.trans (congrArg some (by kernel_rfl))
 f298:=Tryz.func246.trans (congrArg some (by kernel_rfl))
 f299:=Tryz.func247.trans (congrArg some (by kernel_rfl))
 f300:=Tryz.func249.trans (congrArg some (by kernel_rfl))
 f301:=Tryz.func250.trans (congrArg some (by kernel_rfl))
 f328:=Tryz.func293.trans (congrArg some (by kernel_rfl))
 f329:=Tryz.func294.trans (congrArg some (by kernel_rfl))
 f330:=Tryz.func295.trans (congrArg some (by kernel_rfl))
 f331:=Tryz.func296.trans (congrArg some (by kernel_rfl))
 f332:=Tryz.func297.trans (congrArg some (by kernel_rfl))
 f343:=Tryz.func313.trans (congrArg some (by kernel_rfl))
 t0:=Tryz.underlying0
 a0:=Tryz.isAgg0
 z0:=Tryz.sizeOf0
 v0:=Tryz.zeroValue0
 t3:=Tryz.underlying3
 a3:=Tryz.isAgg3
 z3:=Tryz.sizeOf3
 v3:=Tryz.zeroValue3
 t4:=Tryz.underlying4
 a4:=Tryz.isAgg4
 z4:=Tryz.sizeOf4
 v4:=Tryz.zeroValue4
 t5:=Tryz.underlying5
 a5:=Tryz.isAgg5
 z5:=Tryz.sizeOf5
 v5:=Tryz.zeroValue5
 t9:=Tryz.underlying9
 a9:=Tryz.isAgg9
 z9:=Tryz.sizeOf9
 v9:=Tryz.zeroValue9
 t28:=Tryz.underlying57
 a28:=Tryz.isAgg57
 z28:=Tryz.sizeOf57
 v28:=Tryz.zeroValue57
 t46:=Tryz.underlying255
 a46:=Tryz.isAgg255
 z46:=Tryz.sizeOf255
 v46:=Tryz.zeroValue255
 t51:=Tryz.underlying307
 a51:=Tryz.isAgg307
 z51:=Tryz.sizeOf307
 v51:=Tryz.zeroValue307
 t53:=Tryz.underlying217
 a53:=Tryz.isAgg217
 z53:=Tryz.sizeOf217
 v53:=Tryz.zeroValue217
 t131:=Tryz.underlying231
 a131:=Tryz.isAgg231
 z131:=Tryz.sizeOf231
 v131:=Tryz.zeroValue231
 t182:=Tryz.underlying300
 a182:=Tryz.isAgg300
 z182:=Tryz.sizeOf300
 v182:=Tryz.zeroValue300
 t183:=Tryz.underlying301
 a183:=Tryz.isAgg301
 z183:=Tryz.sizeOf301
 v183:=Tryz.zeroValue301
 t218:=Tryz.underlying344
 a218:=Tryz.isAgg344
 z218:=Tryz.sizeOf344
 v218:=Tryz.zeroValue344
 t222:=Tryz.underlying348
 a222:=Tryz.isAgg348
 z222:=Tryz.sizeOf348
 v222:=Tryz.zeroValue348
 t228:=Tryz.underlying358
 a228:=Tryz.isAgg358
 z228:=Tryz.sizeOf358
 v228:=Tryz.zeroValue358
 t229:=Tryz.underlying359
 a229:=Tryz.isAgg359
 z229:=Tryz.sizeOf359
 v229:=Tryz.zeroValue359 }
open Go.Sort Go.RowKit in
theorem Tryz.slices_Sort_int (blk off cap:Nat)(zs:List Int)(w:World)(hH:Holds (Value.int .i64) w blk off zs.toArray)(hblk:blk<w.heap.size)(hsz:zs.length<4611686018427387904) :
  Calls Tryz.prog 109 #[.slice (some ⟨blk,off,none⟩) zs.length cap] w fun e w' =>
   e=.returned (.tuple #[])/\∃n os,w'=grow (putRow (Value.int .i64) (Sort.ahead w n) blk off (zs.mergeSort fun x y=>decide (x<=y)).toArray) os:=Any.slices_Sort_int Tryz.lays189 blk off cap zs w hH hblk hsz
def Tryz.laysNm220_ren:Go.Shelf.Ren:=⟨fun|20=>299|n=>n,fun|22=>57|3=>3|4=>4|0=>0|n=>n,fun|n=>n⟩
theorem Tryz.laysNm220:Go.Proofs.Lays2.n20 Tryz.prog Tryz.laysNm220_ren:={
 mixed:=by kernel_rfl
 f20:=Tryz.func299.trans (congrArg some (by kernel_rfl))
 t0:=Tryz.underlying0
 a0:=Tryz.isAgg0
 z0:=Tryz.sizeOf0
 v0:=Tryz.zeroValue0
 t3:=Tryz.underlying3
 a3:=Tryz.isAgg3
 z3:=Tryz.sizeOf3
 v3:=Tryz.zeroValue3
 t4:=Tryz.underlying4
 a4:=Tryz.isAgg4
 z4:=Tryz.sizeOf4
 v4:=Tryz.zeroValue4
 t22:=Tryz.underlying57
 a22:=Tryz.isAgg57
 z22:=Tryz.sizeOf57
 v22:=Tryz.zeroValue57
 i3:=by kernel_rfl }
open Go.RowKit Go.Lib Go.Sort in
theorem Tryz.slices_Compact_int (blk off cap:Nat)(zs:List Int)(w:World)(hH:Holds (Value.int .i64) w blk off zs.toArray)(hsz:zs.length<=9223372036854775807)(hcap:zs.length<=cap) :
  Calls Tryz.prog 299 #[.slice (some ⟨blk,off,none⟩) zs.length cap] w fun e w'=>e=.returned (.slice (some ⟨blk,off,none⟩) (Lib.compact zs).length cap)/\∃q,w'=putRow (Value.int .i64) (Sort.ahead w q) blk off (Lib.compact zs++List.replicate (zs.length-(Lib.compact zs).length) 0).toArray:=Any.slices_Compact_int Tryz.laysNm220 blk off cap zs w hH hsz hcap
open Go.RowKit Go.Lib Go.Sort in
theorem Tryz.slices_Compact_int_empty (a:Option Addr)(cap:Nat)(w:World) :
  Calls Tryz.prog 299 #[.slice a 0 cap] w fun e w'=>e=.returned (.slice a 0 cap)/\w'=w:=Any.slices_Compact_int_empty Tryz.laysNm220 a cap w
open Go.RowKit Go.Sort in
theorem Tryz.slices_Sort_int_none (p:Option Addr)(cap:Nat)(w:World) :
  Calls Tryz.prog 109 #[.slice p 0 cap] w fun e w'=>e=.returned (.tuple #[])/\w'=w:=Any.slices_Sort_int_none Tryz.lays189 p cap w
end Go.Proofs
set_option maxHeartbeats 2000000
namespace Go.Pv
attribute [local irreducible] PWP POps PQuiet PSem XThen XBlock RetPost InlPost
open Go.Proofs Go.RowKit Go.Sort
theorem Sim.cutS {C:Ctx}{γ:Nat->Option Nat}{s:St}{a:Act}{w:World}(h:Sim C γ s a w){k g n:Nat}{c:Cont}(ho:s.own k=(g,some c))(hz:0<c.sz):Sim C γ (s.setOwn k (g+1) (some ⟨c.ty,c.sz,c.rows.take n,c.kind⟩)) a w:=by
 have hown:∀k' c'',((s.setOwn k (g+1) (some ⟨c.ty,c.sz,c.rows.take n,c.kind⟩)).own k').2=some c''->∃c3,(s.own k').2=some c3:=by
  intro k' c'' hc;by_cases hk:k'=k
  .subst hk;exact⟨c,by rw[ho]⟩
  .rw[ar hk]at hc;exact⟨c'',hc⟩
 have hok:∀b',fu C γ s w b'->fu C γ (s.setOwn k (g+1) (some ⟨c.ty,c.sz,c.rows.take n,c.kind⟩)) w b':=by
  rintro b' ⟨f1,f2,f3⟩;exact⟨f1,f2,fun k' c'' hc=>let ⟨c3,hc3⟩:=hown k' c'' hc;f3 k' c3 hc3⟩
 have hle:(ai C γ s w).Le (ai C γ (s.setOwn k (g+1) (some ⟨c.ty,c.sz,c.rows.take n,c.kind⟩)) w):=by
  refine⟨hok,fun b' hb'=>⟨hb'.1,hok b' hb'.2⟩,fun b' hb'=>hb'.2,fun b' _=>rfl,fun k'=>?_,fun k' l' hg hl=>?_,fun k' l' b' cur'' _ hl hb' hh'=>⟨cur'',hh',O⟩⟩
  .show(s.own k').1<=((s.setOwn k (g+1) _).own k').1;by_cases hk:k'=k
   .subst hk;rw[ah,ho];exact Nat.le_succ _
   .rw[ar hk];exact aH
  .by_cases hk:k'=k
   .subst hk;have:((s.setOwn k' (g+1) (some ⟨c.ty,c.sz,c.rows.take n,c.kind⟩)).own k').1=(s.own k').1:=hg;rw[ah,ho]at this;simp at this
   .simp only[ai,ar hk]at hl;exact⟨l',hl,O,O,O,aH⟩
 refine⟨h.defers,h.size,fun r=>(h.regs r).mono hle,fun k' c'' hc=>?_,fun k1 k2 c1 c2 b' e1 e2 e3 e4=>?_,fun k' c'' b' e1 e2=>?_,h.below,h.top,fun c v hk=>(h.kept c v hk).mono hle⟩
 .by_cases hk:k'=k
  .subst hk;rw[ah]at hc;simp at hc;subst hc;have hs:=h.sites k' c (by rw[ho]);refine⟨fun hb=>by simp[hs.emp hb],(fun b' _ hz'=>by simp only at hz';omega),(fun b' _ hz'=>by simp only at hz';omega),fun b' hb' _=>?_⟩;obtain⟨cur,h1,h2,h3,h4,h5⟩:=hs.at_ b' hb' hz;refine⟨cur,h1,h2,?_,fun row hr=>h4 row (gp hr),fun i j row pv e1 e2=>?_⟩
   .simp only[bI];exact bz (cm _ (Nat.min_le_right _ _)) h3
   .simp only[bE]at e1;split at e1
    .obtain⟨v,f1,f2,f3⟩:=h5 i j row pv e1 e2;exact⟨v,f1,f2,f3.mono hle⟩
    .cases e1
  .rw[ar hk]at hc;exact(h.sites k' c'' hc).mono hle fun b' hb'=>rfl
 .obtain⟨d1,f1⟩:=hown k1 c1 e1;obtain⟨d2,f2⟩:=hown k2 c2 e2;exact h.inj k1 k2 d1 d2 b' f1 f2 e3 e4
 .obtain⟨d1,f1⟩:=hown k' c'' e1;exact h.base k' d1 b' f1 e2
theorem Ghost.cut {s:St}{k g t n sz kd:Nat}{T:TypeId}{rows:List (List PV)}(ho:s.own k=(g,some ⟨T,sz,rows,kd⟩))(hr:s.reg t=.als k g 0 n)(hn:n<=rows.length)(hz:Nat.blt 0 sz=true) :
  Ghost s ((s.setOwn k (g+1) (some ⟨T,sz,rows.take n,kd⟩)).putR t (.als k (g+1) 0 n)):=by
 intro C a w hX ⟨γ,h⟩;have hz:0<sz:=by simpa using hz
 have h':=h.cutS (n:=n) ho hz;have hals:=h.als_at (by rw[<-hr];exact h.regs t) ho;refine⟨γ,h'.defers,h'.size,fun r=>?_,h'.sites,h'.inj,h'.base,h'.below,h'.top,h'.kept⟩;show Rep (ai C γ (s.setOwn k (g+1) (some ⟨T,sz,rows.take n,kd⟩)) w) (bif Nat.beq r t then _ else _) _;by_cases hrt:r=t
 .subst hrt;rw[jh,cond_true];refine .als (by simp[ai,ah]) fun _ l hl=>?_;simp only[ai,ah,ca,aJ]at hl;subst hl;rcases hals with⟨h1,h2,h3,h4⟩|⟨b,cap,cur,h1,h2,h3,h4,h5,h6,h7⟩
  .exact .inl ⟨h1,h2,h3,h4⟩
  .exact .inr ⟨b,cap,cur,h1,h2,h3,h4,h5,h6,by simp;omega⟩
 .rw[bR hrt,cond_false];exact h'.regs r
def ee (l:List Int):List Int:=l.mergeSort fun x y=>decide (x<=y)
def uh (l:List Int):List Int:=Lib.compact l++List.replicate (l.length-(Lib.compact l).length) 0
theorem vn (x:Int):(eN x).all j6=true:=rfl
theorem qg {w:World}{b:Nat}{T:TypeId}{cur:Array Value}{l:List Int}(hh:w.heap[b]?=some (.cells cur T (0,0)))(hc:cur.toList.take (l.length*1)=jJ eN l):Holds (Value.int .i64) w b 0 l.toArray:=fun j hj=>by
 have hj':j<l.length:=by simpa using hj
 have hx:l[j]?=some l[j]:=aQ hj';have h1:=Ac hc (mA (sz:=1) (fun _=>rfl) l j 0 l[j] (I l[j]) hx O);rw[pp,fB]at h1;refine⟨?_,frozen_of_row w b _ cur T hh⟩;rw[bc hh,aG,<-dq,h1];simp[hj',scv]
theorem rT (l:List Int):jJ eN l=l.map (Value.int .i64):=by
 induction l with
 |nil=>rfl
 |cons x l ih=>rw[jJ,js,db,<-ih];rfl
theorem Fc:f_ Tryz.prog 109:=⟨_,Go.Proofs.Tryz.func109,Y,O⟩
theorem Fd:f_ Tryz.prog 299:=⟨_,Go.Proofs.Tryz.func299,Y,O⟩
section
variable {C:Ctx}{s:St}{d k g m kd:Nat}{ty:TypeId}{pos:String}{af:Array Edge}{x:Operand}{tys:Array TypeId}{K:St->Prop}
theorem sortI_sm (l:List Int)(hl:l.length<=1000000)(hx:s.ev x=.als k g 0 m)(hm:m=l.length)(ho:s.own k=(g,some ⟨3,1,l.map eN,kd⟩))
  (h:K ((s.setOwn k g (some ⟨3,1,(ee l).map eN,kd⟩)).putR d (.tup []))):Sm Tryz.prog lay.get s ⟨some d,.call ⟨.value (.func 109),#[x],tys⟩,ty,pos,af,none⟩ K:=by
 refine qS (enc:=eN) (l:=l) (sz:=1) (more:=[]) (mv:=[]) none (fun l'=>l'=ee l) vn (fun _=>rfl) Y O hx hm ho O Fc (fun n h=>by cases h) (fun hl0=>?_) (fun w b cap cur hh h1 h2 hc hg=>?_) (fun l' hQ _=>?_)
 .subst hl0;refine⟨by simp[ee],fun w _=>(Tryz.slices_Sort_int_none none 0 w).mono ?_⟩;rintro e w' ⟨rfl,rfl⟩;exact⟨O,Below.refl _ _⟩
 .have hb:b<w.heap.size:=(eO hh).1;refine(Tryz.slices_Sort_int b 0 cap l w (qg hh hc) hb J).mono ?_;rintro e w' ⟨rfl,n,os,hw⟩;have hlen:(ee l).length=l.length:=by simp[ee]
  have hchg:=yK (T:=3) hh hw;refine⟨ee l,_,O,hlen,O,hchg,lu _ _ _ _,?_⟩;have:=lw (Value.int .i64) (ee l).toArray cur (by simp[hlen];omega);rw[kB,hlen]at this;rw[pp,rT];exact this
 .subst hQ;exact h
theorem gz (l:List Int):(Lib.compact l).length<=l.length:=by
 rw[Lib.compact,Lib.compactUpTo,aM];exact bz (List.length_filter_le _ _) aj
theorem mY (l:List Int):(uh l).length=l.length:=by
 have:=gz l;simp[uh];omega
theorem u7 (l:List Int)(hl:l.length<=1000000)(hx:s.ev x=.als k g 0 m)(hm:m=l.length)(ho:s.own k=(g,some ⟨3,1,l.map eN,kd⟩))
  (h:K ((s.setOwn k g (some ⟨3,1,(uh l).map eN,kd⟩)).putR d (.als k g 0 (Lib.compact l).length))):Sm Tryz.prog lay.get s ⟨some d,.call ⟨.value (.func 299),#[x],tys⟩,ty,pos,af,none⟩ K:=by
 refine qS (enc:=eN) (l:=l) (sz:=1) (more:=[]) (mv:=[]) (some (Lib.compact l).length) (fun l'=>l'=uh l) vn (fun _=>rfl) Y O hx hm ho O Fd (fun n h=>by cases h;exact gz l) (fun hl0=>?_) (fun w b cap cur hh h1 h2 hc hg=>?_) (fun l' hQ _=>?_)
 .subst hl0;refine⟨O,fun w _=>(Tryz.slices_Compact_int_empty none 0 w).mono ?_⟩;rintro e w' ⟨rfl,rfl⟩;exact⟨O,Below.refl _ _⟩
 .refine(Tryz.slices_Compact_int b 0 cap l w (qg hh hc) J h1).mono ?_;rintro e w' ⟨rfl,q,hw⟩;have hchg:=yK (T:=3) hh (hw.trans (Go.Sort.grow_empty _).symm);refine⟨uh l,_,O,mY l,O,hchg,lu _ _ _ _,?_⟩;have:=lw (Value.int .i64) (uh l).toArray cur (by simp[mY];omega);rw[kB,mY]at this;rw[pp,rT];exact this
 .subst hQ;exact h
end
open Go.Proofs
def cN (l:List SR):List Int:=Lib.compact (ee (l.map (·.x)))
theorem qD (l:List SR)(hl:lB l)(h12:l.length<=1000):bb 257 [.sl (l.map eS)] (.sl ((cN l).map eN)):=by
 have hml:(l.map eS).length=l.length:=aj;have hrows:∀(k:Nat) x,l[k]?=some x->((l.take (k+1)).map (·.x)).map eN=((l.take k).map (·.x)).map eN++[eN x.x]:=fun k x hx=>by rw[bY hx,bQ,bQ];rfl
 refine ay Proofs.Tryz.func257 ?_
 ((repeat (first|refine bg ?_ | refine d_ ?_ | refine dK ?_ | refine dT ?_));refine bV ?_)
 refine m9 O trivial ?_
 ((repeat (first|refine bg ?_ | refine d_ ?_ | refine dK ?_ | refine dT ?_));refine bV ?_)
 (first|refine aC (j4 3 1 0 O O ?_)|refine aC (j3 3 1 0 O O ?_))
 refine H ?_;refine ao (fun k=>k<=l.length) (fun k=>[(3,.als 3 (k+1) 0 (((l.take k).map (·.x)).map eN).length),(6,.sl (l.map eS)),(7,I l.length),(8,I k)]) (fun k=>[(3,k+1,⟨3,1,((l.take k).map (·.x)).map eN,0⟩)]) (fun k=>l.length-k) 0 (aF _) ⟨O,O,by rw[<-hml];rfl,ak⟩ ?_;intro k s hk;refine D ?_ ?_<;>intro h
 .have hlt:k<l.length:=cP h;clear h;obtain⟨x,hx⟩:=aK hlt;have hw:=im k;refine aZ hx ?_;refine H ?_;refine aC (b8 0 O O O O O O O O O O O ak O ?_);refine H ?_;refine aC (cQ 0 O O O O O O O O O O O ak jM O O aX aX ?_);refine H ?_;refine⟨k+1,hlt,J,?_,O,O,congrArg I hw,?_,bP⟩
  .rw[hrows k x hx];rfl
  .rw[hrows k x hx];rfl
 .have hge:k=l.length:=cG h;subst hge;clear h;rw[bM];have hal:(l.map (·.x)).length<=1000000:=by simp;omega
  generalize hX:l.map (·.x)=X at *
  have hsl:(ee X).length<=1000000:=by rw[ee,List.length_mergeSort];exact hal
  (refine dN 7 ?_;refine aD 1 ?_)
  refine g_ O ?_;refine bg ?_;refine aU O (sortI_sm X hal O aj O ?_);refine aE ?_
  (refine dN 8 ?_;refine aD 1 ?_)
  refine g_ O ?_;refine bg ?_;refine aU O (u7 (ee X) hsl O (by simp[ee]) O ?_);refine aE ?_;refine m9 O trivial ?_;refine bg ?_;refine dK ?_;refine ax (Ghost.cut (k:=3) (t:=2) (rows:=(uh (ee X)).map eN) O O (by rw[aM,mY];exact gz _) O) ?_;have hc:((uh (ee X)).map eN).take (Lib.compact (ee X)).length=(cN l).map eN:=by
   rw[<-jc,uh,pj,cN,hX]
  have hcl:(Lib.compact (ee X)).length=(cN l).length:=by rw[cN,hX]
  rw[hc];refine H ?_;exact jL O O O ⟨O,O,by show _=(List.map eN (cN l)).length;rw[aM,hcl]⟩ O
theorem x8 {l:List SR}{x:Int}(h:x∈cN l):∃s∈l,s.x=x:=by
 have h1:x∈ee (l.map (·.x)):=by
  rw[cN,Lib.compact,Lib.compactUpTo]at h;obtain⟨i,hi,rfl⟩:=bF.1 h;have hi:=(mP.1 hi).1;have hi:i<(ee (l.map (·.x))).length:=by simpa using hi
  have e:(ee (l.map (·.x))).toArray[i]! = (ee (l.map (·.x)))[i]:=by simp[hi]
  rw[e];exact tI hi
 rw[ee,List.mem_mergeSort]at h1;obtain⟨s,hs,rfl⟩:=bF.1 h1;exact⟨s,hs,O⟩
theorem ig {l:List SR}(hc:di l=0){x:Int}(h:x∈cN l) : -1000000<=x/\x<=1000000:=by
 obtain⟨s,hs,rfl⟩:=x8 h;rw[di]at hc;split at hc
 .omega
 .have:=lK hc s hs;rw[w8]at this;split at this
  .omega
  .rename_i h1;omega
theorem jz (l:List SR):(cN l).length<=l.length:=by
 have:=gz (ee (l.map (·.x)));rw[cN];simp[ee]at this ⊢;exact this
def rG (x:Int):AR:=⟨ofQ ((-x:Int):Rat),ofQ ((1:Int):Rat)⟩
def yR (x:Int):AR:=⟨ofQ (x:Rat),ofQ ((-1:Int):Rat)⟩
def ef (l:List SR):List AR:=(cN l).map rG++(cN l).map yR
theorem xf (l:List SR)(hl:lB l)(h12:l.length<=1000)(hck:di l=0):bb 187 [.sl (l.map eS)] (.sl ((ef l).map eA)):=by
 have hp:=qD l hl h12;have hrg:∀x∈cN l,-1000000<=x/\x<=1000000:=fun x hx=>ig hck hx;have hpl:=jz l;have w1:=bH 1 ⟨Y,Y⟩;have w2:=bH (-1) ⟨Y,Y⟩;rw[ef];generalize cN l=Pl at *
 have hml:(Pl.map eN).length=Pl.length:=aj;have hrows:∀(k:Nat) x,Pl[k]?=some x->((Pl.take (k+1)).map rG).map eA=((Pl.take k).map rG).map eA++[eA (rG x)]:=fun k x hx=>by rw[bY hx,bQ,bQ];rfl
 have hrows2:∀(k:Nat) x,Pl[k]?=some x->(Pl.map rG++(Pl.take (k+1)).map yR).map eA=(Pl.map rG++(Pl.take k).map yR).map eA++[eA (yR x)]:=fun k x hx=>by rw[bY hx];simp[bQ]
 refine ay Proofs.Tryz.func187 ?_
 ((repeat (first|refine bg ?_ | refine d_ ?_ | refine dK ?_ | refine dT ?_));refine bV ?_)
 refine m9 O trivial ?_
 ((repeat (first|refine bg ?_ | refine d_ ?_ | refine dK ?_ | refine dT ?_));refine bV ?_)
 (first|refine aC (j4 48 8 1 O O ?_)|refine aC (j3 48 8 1 O O ?_))
 refine G hp ?_;refine H ?_;refine ao (fun k=>k<=Pl.length) (fun k=>[(0,.sl (l.map eS)),(3,.als 3 (k+1) 0 (((Pl.take k).map rG).map eA).length),(9,.sl (Pl.map eN)),(10,I Pl.length),(11,I k)]) (fun k=>[(3,k+1,⟨48,8,((Pl.take k).map rG).map eA,1⟩)]) (fun k=>Pl.length-k) 0 (aF _) ⟨O,O,O,by rw[<-hml];rfl,ak⟩ ?_;intro k s hk;refine D ?_ ?_<;>intro h
 .have hlt:k<Pl.length:=cP h;clear h;obtain⟨x,hx⟩:=aK hlt;have hr:=hrg x (bG hx);have hnx:=bH (-x) ⟨J,J⟩;have hw:=im k;have hn:IntKind.i64.wrap (0-x) = -x:=by rw[wrap_i64 J J];omega
  refine aZ hx ?_;refine H ?_;rw[hn];refine yd O O O hnx O O ?_;refine G w1 ?_;refine H ?_;refine aC (b8 1 O O O O O O O O O O O ak O ?_);refine H ?_;refine aC (cQ 1 O O O O O O O O O O O ak jM O O aX aX ?_);refine H ?_;refine⟨k+1,hlt,J,O,?_,O,O,congrArg I hw,?_,bP⟩
  .rw[hrows k x hx];rfl
  .rw[hrows k x hx];rfl
 .have hge:k=Pl.length:=cG h;subst hge;clear h;rw[bM];refine G hp ?_;refine H ?_;refine ao (fun k=>k<=Pl.length) (fun k=>[(3,.als 3 (Pl.length+k+1) 0 ((Pl.map rG++(Pl.take k).map yR).map eA).length),(25,.sl (Pl.map eN)),(26,I Pl.length),(27,I k)]) (fun k=>[(3,Pl.length+k+1,⟨48,8,(Pl.map rG++(Pl.take k).map yR).map eA,1⟩)]) (fun k=>Pl.length-k) 0 (aF _) ⟨by rw[ib,fC,cu];rfl,O,by rw[<-hml];rfl,O,by rw[ib,fC,cu];rfl,bP⟩ ?_;intro k s hk;refine D ?_ ?_<;>intro h
  .have hlt:k<Pl.length:=cP h;clear h;obtain⟨x,hx⟩:=aK hlt;have hr:=hrg x (bG hx);have hnx:=bH x ⟨J,J⟩;have hw:=im k;refine aZ hx ?_;refine G hnx ?_;refine G w2 ?_;refine H ?_;refine aC (b8 1 O O O O O O O O O O O ak O ?_);refine H ?_;refine aC (cQ 1 O O O O O O O O O O O ak jM O O aX aX ?_);refine H ?_;refine⟨k+1,hlt,J,?_,O,O,congrArg I hw,?_,bP⟩
   .rw[hrows2 k x hx];rfl
   .rw[hrows2 k x hx];rfl
  .have hge:k=Pl.length:=cG h;subst hge;clear h;rw[bM];refine H ?_;exact jL O O O ak O
def fi:AR:=⟨ofQ ((1:Int):Rat),ofQ ((0:Int):Rat)⟩
noncomputable def l8 (b:BR)(r:AR):Bool:=qK b r.z.val r.t.val
noncomputable def nc (b:BR):PV:=if l8 b fi=true then .tup [.agg (eA fi),I 12] else match (ef b.l).find? (l8 b) with
 |some r => .tup [.agg (eA r),I 13]
 |none => .tup [.agg (zN++zN),I 0]
theorem vI {z:Int}(h:i64 z):Vq (ofQ (z:Rat)) ((ofQ (z:Rat)).val) 4:=by
 have hz:Zb z:=aL h.1 h.2;have:=Vq.ofQ (h:=HQ.int (z:=z));rw[ofQ_val];exact this
theorem Ae {l:List SR}(hck:di l=0){r:AR}(h:r∈ef l):Va r r.z.val r.t.val 4 4:=by
 rw[ef,fe]at h;rcases h with h|h
 .obtain⟨x,hx,rfl⟩:=bF.1 h;have:=ig hck hx;exact⟨vI ⟨J,J⟩,vI ⟨Y,Y⟩⟩
 .obtain⟨x,hx,rfl⟩:=bF.1 h;have:=ig hck hx;exact⟨vI ⟨J,J⟩,vI ⟨Y,Y⟩⟩
theorem yV:Va fi fi.z.val fi.t.val 4 4:=⟨vI ⟨Y,Y⟩,vI ⟨Y,Y⟩⟩
theorem AH {α:Type}(p:α->Bool){l:List α}{i:Nat}{x:α}(h:l[i]?=some x):(l.drop i).find? p=if p x=true then some x else(l.drop (i+1)).find? p:=by
 obtain⟨hl,rfl⟩:=bD h;rw[lR hl,List.find?_cons];cases p l[i]<;>simp
theorem wJ (b:BR)(hb:b.Ok):bb 119 [.agg (eB b)] (nc b):=by
 have w1:=bH 1 ⟨Y,Y⟩;have w0:=bH 0 ⟨Y,Y⟩;have hd:=oD b hb fi yV Y Y;have ht:=xf b.l hb.lim.l (by have:=hb.few.1;omega) hb.chkL;have hva:∀r∈ef b.l,bb 186 [.agg (eB b),.agg (eA r)] (.bool (l8 b r)):=fun r hr=>oD b hb r (Ae hb.chkL hr) Y Y;rw[show qK b fi.z.val fi.t.val=l8 b fi from O]at hd;have htl:(ef b.l).length<=1000:=by
  have:=jz b.l;have:=hb.few.1;rw[ef];simp;omega
 generalize hR:nc b=R;rw[nc]at hR;generalize ef b.l=T at *
 have hml:(T.map eA).length=T.length:=aj;generalize hfn:l8 b=fn at *
 clear hfn;obtain⟨w,ba,l⟩:=b;simp only at *
 rw[fi]at *
 by_cases h1:fn ⟨ofQ ((1:Int):Rat),ofQ ((0:Int):Rat)⟩=true
 .rw[if_pos h1]at hR;rw[h1]at hd;subst hR;refine ay Proofs.Tryz.func119 ?_;refine G w1 ?_;refine G w0 ?_;refine aB hd ?_;exact cy
 .rw[if_neg h1]at hR;rw[i_]at h1;rw[h1]at hd;refine ay Proofs.Tryz.func119 ?_;refine G w1 ?_;refine G w0 ?_;refine aB hd ?_;refine G ht ?_;refine H ?_;refine ao (fun i=>i<=T.length/\(T.drop i).find? fn=T.find? fn) (fun i=>[(1,.ptr 1 1 0 0),(2,.ptr 2 1 0 0),(16,.sl (T.map eA)),(17,I T.length),(18,I (i:Nat))]) (fun i=>[(1,1,⟨128,6,[eB ⟨w,ba,l⟩],2⟩),(2,1,⟨48,8,[zN++zN],2⟩)]) (fun i=>T.length-i) 0 ⟨aF _,by rw[fS]⟩ ⟨O,O,O,by rw[<-hml];rfl,ak⟩ ?_;intro i s ⟨hi,hF⟩;refine D ?_ ?_<;>intro h
  .have hlt:i<T.length:=cP h;clear h;obtain⟨r,hr⟩:=aK hlt;have hrr:=hva r (bG hr);have hw:=im i;rw[AH fn hr]at hF;cases hfr:fn r with
   |true =>
    rw[hfr]at hrr;rw[if_pos hfr]at hF;rw[<-hF]at hR;simp only at hR;subst hR;refine aZ hr ?_;refine aB hrr ?_;exact cy
   |false =>
    rw[hfr]at hrr;rw[if_neg (by rw[hfr];decide)]at hF;refine aZ hr ?_;refine aB hrr ?_;refine H ?_;exact⟨i+1,⟨J,hF⟩,J,O,O,O,O,congrArg I hw,ak⟩
  .have hie:i=T.length:=cG h;clear h;rw[hie,iw,List.find?_nil]at hF;rw[<-hF]at hR;simp only at hR;subst hR;exact cy
def oK {α:Type}(d:α->Rat)(l:List α)(x:α):Nat->Nat
 |0=>0
 |k+1=>match l[k]? with
  |some y=>if d x<d y then oK d l x k else k+1
  |none=>oK d l x k
def Bi {α:Type}(d:α->Rat)(l:List α)(x:α):Nat:=oK d l x l.length
def dC {α:Type}(l:List α)(x:α)(k:Nat):List α:=l.take k++x::l.drop k
def nL {α:Type}(d:α->Rat)(l:List α)(x:α):List α:=dC l x (Bi d l x)
def da {α:Type}(d:α->Rat)(l:List α):List α:=l.foldl (nL d) []
theorem zJ {α:Type}{d:α->Rat}{l:List α}{x:α}{j:Nat}(h2:j=0\/∃y,l[j-1]?=some y/\d y<=d x):∀k,j<=k->k<=l.length->(∀q y,j<=q->q<k->l[q]?=some y->d x<d y)->oK d l x k=j
 |0,hk,_,_=>by rw[oK];omega
 |k+1,hk,hl,h1=>by
  obtain⟨y,hy⟩:∃y,l[k]?=some y:=⟨l[k],aQ J⟩;rw[oK,hy];dsimp only;by_cases he:j=k+1
  .subst he;rcases h2 with h2|⟨z,hz,hd⟩
   .omega
   .rw[gO,hy]at hz;cases hz;rw[if_neg aW]
  .rw[if_pos (h1 k y J J hy)];exact zJ h2 k J J fun q z hq hq2=>h1 q z hq J
theorem zK {α:Type}{d:α->Rat}{l:List α}{x:α}{j:Nat}(hj:j<=l.length)(h1:∀q y,j<=q->l[q]?=some y->d x<d y)(h2:j=0\/∃y,l[j-1]?=some y/\d y<=d x):Bi d l x=j :=
 zJ h2 _ hj (aH) fun q y hq _=>h1 q y hq
theorem AS {α:Type}(d:α->Rat)(l:List α)(x:α):(nL d l x).Perm (x::l):=by
 rw[nL,dC];exact tO.trans (by rw[cD])
theorem qV {α:Type}(d:α->Rat)(l:List α)(x:α):da d (l++[x])=nL d (da d l) x:=by
 rw[da,mM];rfl
theorem jC {α:Type}(d:α->Rat)(l:List α):(da d l).Perm l:=by
 have:∀(l acc:List α),(l.foldl (nL d) acc).Perm (acc++l):=by
  intro l
  induction l with
  |nil=>intro acc;simp
  |cons x l ih =>
   intro acc;rw[iz];refine(ih _).trans (((AS d acc x).append_right l).trans ?_);rw[tG];exact tO.symm
 exact this l []
theorem fq {α:Type}(d:α->Rat)(l:List α):(da d l).length=l.length:=(jC d l).length_eq
theorem vK {α:Type}{l:List α}{x:α}{k:Nat}(hk:k<=l.length):(dC l x k)[k]?=some x:=by
 rw[dC,dj aX];simp[iy hk]
theorem qn {α:Type}{l:List α}{x:α}{k q:Nat}(hk:k<=l.length)(h:q<k):(dC l x k)[q]? = l[q]? := by
 rw[dC,fG aX,bE,if_pos h]
theorem xL {α:Type}{l:List α}{x y:α}{k:Nat}(hk:k+1<=l.length)(hy:l[k]?=some y):((dC l x (k+1)).set (k+1) y).set k x=dC l x k:=by
 obtain⟨hlt,rfl⟩:=bD hy;apply fP;intro q;have hl1:(dC l x (k+1)).length=l.length+1:=by simp[dC];omega
 simp only[tE,iA,hl1];by_cases h1:k=q
 .subst h1;rw[if_pos O,if_pos J,vK J]
 .rw[if_neg h1];by_cases h2:k+1=q
  .subst h2;rw[if_pos O,if_pos J,dC,dj aX];simp only[bI,iy (show k<=l.length by omega),Nat.add_sub_cancel_left,oU,cq,fB];exact(aQ hlt).symm
  .rw[if_neg h2];rcases aT q k with h|h
   .rw[qn J h,qn hk J]
   .rw[dC,dC,dj aX,dj aX];simp only[bI,iy hk,iy (show k<=l.length by omega)];obtain⟨r,rfl⟩:∃r,q=k+2+r:=⟨q-(k+2),J⟩;rw[show k+2+r-(k+1)=r+1 by omega,show k+2+r-k=r+1+1 by omega,oU,oU,cq,cq];congr 1;omega
theorem nT {α:Type}(d:α->Rat)(l:List α)(x:α):∀k,k<=l.length->(oK d l x k=0\/∃y,l[oK d l x k-1]?=some y/\d y<=d x)/\∀q y,oK d l x k<=q->q<k->l[q]?=some y->d x<d y
 |0,_=>⟨.inl rfl,fun q y _ hq=>by omega⟩
 |k+1,hk=>by
  obtain⟨y,hy⟩:∃y,l[k]?=some y:=⟨l[k],aQ J⟩;obtain⟨h1,h2⟩:=nT d l x k J;rw[oK,hy];dsimp only;split
  .rename_i hlt;refine⟨h1,fun q z hq hqk hz=>?_⟩;by_cases he:q=k
   .subst he;rw[hy]at hz;cases hz;exact hlt
   .exact h2 q z hq J hz
  .rename_i hlt;exact⟨.inr ⟨y,by rw[gO];exact hy,aW⟩,fun q z hq hqk=>by omega⟩
theorem vL {α:Type}{d:α->Rat}{l:List α}(x:α)(h:l.Pairwise fun a b=>d a<=d b):(nL d l x).Pairwise fun a b=>d a<=d b:=by
 obtain⟨h1,h2⟩:=nT d l x l.length (aH);rw[nL,dC,Bi];generalize oK d l x l.length=k at *
 have hbefore:∀a∈l.take k,d a<=d x:=by
  intro a ha;rcases h1 with h1|⟨y,hy,hyx⟩
  .subst h1;simp at ha
  .obtain⟨i,hi,rfl⟩:=fc ha;have hi':i<k:=by simp at hi;omega
   have hil:i<l.length:=by simp at hi;omega
   obtain⟨hk1,hk2⟩:=bD hy;rw[List.getElem_take];by_cases he:i=k-1
   .subst he;rw[hk2];exact hyx
   .have:=nO.1 h i (k-1) hil hk1 J;rw[hk2]at this;grind
 have hbehind:∀a∈l.drop k,d x<=d a:=by
  intro a ha;obtain⟨i,hi,rfl⟩:=fc ha;have hil:k+i<l.length:=by simp at hi;omega
  have:=h2 (k+i) l[k+i] J hil (aQ hil);rw[List.getElem_drop];grind
 refine lW.2 ⟨h.sublist (o_ _ _),kA.2 ⟨hbehind,h.sublist (tF _ _)⟩,fun a ha b hb=>?_⟩;rcases cw.1 hb with rfl|hb
 .exact hbefore a ha
 .have:=hbefore a ha;have:=hbehind b hb;grind
theorem gH {α:Type}(d:α->Rat)(l:List α):(da d l).Pairwise fun a b=>d a<=d b:=by
 have:∀(l acc:List α),acc.Pairwise (fun a b=>d a<=d b)->(l.foldl (nL d) acc).Pairwise fun a b=>d a<=d b:=by
  intro l
  induction l with
  |nil=>intro acc h;exact h
  |cons x l ih=>intro acc h;exact ih _ (vL x h)
 exact this l [] .nil
theorem eW {L:b9}{fn:Func}{K:St->PV->Prop}{s:St}(h:fn.results.toList=[])(hk:K s (.tup [])):InlPost L fn K .normal s:=by
 unfold InlPost;exact⟨[],True,by rw[h];rfl,trivial,hk⟩
structure BN where
 at':RR
 up:RR
def b_ (b:BN):List PV:=eR b.at'++eR b.up
def bO (b:BN):Rat:=b.at'.val
theorem mr {p q:BN}(h1:p.at'.sz 7000000)(h2:q.at'.sz 7000000):bb 302 [.agg (b_ p),.agg (b_ q)] (I (sgn (bO p-bO q))):=by
 have hc:=mt p.at' q.at' (hx:=h1.v) (hy:=h2.v) Y Y;rw[show p.at'.val-q.at'.val=bO p-bO q from O]at hc;generalize sgn (bO p-bO q)=g at *
 obtain⟨pa,pu⟩:=p;obtain⟨qa,qu⟩:=q;simp only at *
 refine ay Proofs.Tryz.func302 ?_;refine aB hc ?_;exact dL
def mm (s:SR)(t:Rat):Rat:=s.c.val+t*(s.x:Rat)
def bn (s:SR)(t:Rat)(k:Nat):BN:=⟨ofQ (s.k.s k-mm s t),ofQ (s.k.m k-bU s.k.m k)⟩
def rj (t:Rat)(s:SR):List BN:=(List.range s.k.S.length).map (bn s t)
def nD (l:List SR)(t:Rat):List BN:=l.flatMap (rj t)
theorem oP (t:Rat)(s:SR):(rj t s).length=s.k.S.length:=by simp[rj]
theorem yG {s:SR}(hs:s.Lim){t:Rat}{m:Nat}(ht:HQ t m):HQ (mm s t) (13+(m+4)+1):=by
 have hx:Zb s.x:=aL hs.x.1 hs.x.2;exact @HQ.add _ _ 13 (m+4) hs.c.v.hq (@HQ.mul _ _ m 4 ht HQ.int)
theorem yH {s:SR}(hs:s.Lim){t:Rat}{m:Nat}(ht:HQ t m)(k:Nat):HQ (s.k.s k-mm s t) (4+(13+(m+4)+1)+1):=by
 have hb:=oF hs.k k;have hzb:Zb (s.k.S.getD k 0):=aL hb.1 hb.2;exact @HQ.sub _ _ 4 _ HQ.int (yG hs ht)
theorem Cj {l:List SR}{t:Rat}{b:BN}(h:b∈nD l t):∃s∈l,∃k,k<s.k.S.length/\b=bn s t k:=by
 obtain⟨s,hs,hb⟩:=List.mem_flatMap.1 h;obtain⟨k,hk,rfl⟩:=bF.1 hb;exact⟨s,hs,k,dG.1 hk,O⟩
def Ci (l:List SR)(t:Rat):List BN:=da bO (nD l t)
theorem ye (f:Nat->BN)(k:Nat):(List.range (k+1)).map f=(List.range k).map f++[f k]:=by rw[tS,bQ];rfl
structure SortC (l:List BN):Prop where
 run:∀ {K:St->Prop} {s:St} {d g:Nat} {x c:Operand} {tys:Array TypeId} {ty:TypeId} {pos:String} {af:Array Edge},s.ev x=.als 5 g 0 (l.map b_).length->s.ev c=.clo 302 []->(∀p∈l,p.at'.sz 7000000)->FitO s [(5,g,⟨320,8,l.map b_,1⟩)] ->
  (∀s1:St,K (({ reg:=s.reg,own:=(s1.over [] [(5,g,⟨320,8,(da bO l).map b_,1⟩)]).own }:St).putR d (.tup [])))->Sm Tryz.prog lay.get s ⟨some d,.call ⟨.value (.func 301),#[x,c],tys⟩,ty,pos,af,none⟩ K
theorem uZ (l:List SR)(hl:lB l)(hck:di l=0)(h8:∀s∈l,s.k.S.length<=8)(h12:l.length<=12)(tr:RR){t:Rat}{m:Nat}[ht:Vq tr t m](hm:m<=1000000)(h40:(nD l t).length<=54)(hS:SortC (nD l t)) :
  bb 259 [.sl (l.map eS),.agg (eR tr)] (.sl ((Ci l t).map b_)):=by
 have hw0:=bH 0 ⟨Y,Y⟩;have hml:(l.map eS).length=l.length:=aj;have hlen:∀i,i<=l.length->((l.take i).flatMap (rj t)).length<=54:=fun i hi=>by
  have:((l.take i).flatMap (rj t)).length<=(nD l t).length:=by
   conv=>rhs;rw[nD,<-cD i l,o6,bT]
   omega
  omega
 refine ay Proofs.Tryz.func259 ?_;refine H ?_;refine ax (Ghost.nilreg (k:=5) (t:=5) 320 8 1 O O) ?_;refine ao (fun i:Nat=>i<=l.length) (fun i=>[(3,.ptr 3 1 0 0),(5,.als 5 (((l.take i).flatMap (rj t)).length+1) 0 (((l.take i).flatMap (rj t)).map b_).length),(12,.sl (l.map eS)),(13,I l.length),(14,I (i:Nat))])
  (fun i=>[(3,1,⟨41,4,[eR tr],2⟩),(5,((l.take i).flatMap (rj t)).length+1,⟨320,8,((l.take i).flatMap (rj t)).map b_,1⟩)]) (fun i=>l.length-i) 0 (aF _) ⟨O,O,O,by rw[<-hml];rfl,ak⟩ ?_
 intro i s hi;refine D ?_ ?_<;>intro h
 .have hlt:i<l.length:=cP h;clear h;obtain⟨x,hx⟩:=aK hlt;have hxm:=bG hx;have hxl:=hl.1 x hxm;have hkc:=dD hck x hxm;obtain⟨h40,hSM,-,-⟩:=fx hkc;have hk8:=h8 x hxm;have hfl:(l.take (i+1)).flatMap (rj t)=(l.take i).flatMap (rj t)++rj t x:=by rw[bY hx,o6];simp
  have hA:=hlen i hi;have hA1:=hlen (i+1) hlt;rw[hfl,bT,oP]at hA1;generalize (l.take i).flatMap (rj t)=A at *
  have hw:=im i;have hzx:Zb x.x:=aL hxl.x.1 hxl.x.2;have e1:=bH x.x hxl.x;have e2:=gu tr (ofQ (x.x:Rat)) J Y;have v2:Vq (ofQ (t*(x.x:Rat))) (t*(x.x:Rat)) (m+1+4):=Vq.ofQ (h:=@HQ.mul _ _ (m+1) 4 ht.hq HQ.int);have e3:=dh x.c (ofQ (t*(x.x:Rat))) (hx:=hxl.c.v) (hy:=v2) Y J;rw[show x.c.val+t*(x.x:Rat)=mm x t from O]at e3;have vb:Vq (ofQ (mm x t)) (mm x t) (13+(m+1+4)+1):=Vq.ofQ (h:=yG hxl ht.hq);have hMl:(x.k.M.map eR).length=x.k.S.length:=by simp[hSM]
  refine aZ hx ?_;refine dN 5 ?_;refine ax (jW 8) ?_;refine cp [(8,8),(9,8)] aN aN ?_;refine G e1 ?_;refine G e2 ?_;refine G e3 ?_;refine G hw0 ?_;refine H ?_;refine cA [(3,.ptr 3 1 0 0),(5,.als 5 (A.length+1) 0 (A.map b_).length),(7,.ptr 7 ((s.own 7).1+1) 0 0),(8,.ptr 8 ((s.own 8).1+2+1) 0 0),(9,.ptr 9 ((s.own 9).1+1) 0 0),(12,.sl (l.map eS)),(13,I l.length),(14,I (i:Nat)),(29,.sl (x.k.M.map eR)),(30,I (x.k.M.map eR).length),(31,I ((0:Nat):Int))]
   [(3,1,⟨41,4,[eR tr],2⟩),(5,A.length+1,⟨320,8,A.map b_,1⟩),(7,(s.own 7).1+1,⟨196,7,[eS x],2⟩),(8,(s.own 8).1+2+1,⟨41,4,[eR (ofQ (mm x t))],2⟩),(9,(s.own 9).1+1,⟨41,4,[eR (E_ x.k 0)],2⟩)]
   ak ?_
  generalize (s.own 7).1+1=g7;generalize (s.own 8).1+2+1=g8;generalize (s.own 9).1+1=g9;rw[hMl];intro s1;refine ao (fun k:Nat=>k<=x.k.S.length) (fun k=>[(3,.ptr 3 1 0 0),(5,.als 5 (A.length+k+1) 0 ((A++(List.range k).map (bn x t)).map b_).length),(7,.ptr 7 g7 0 0),(8,.ptr 8 g8 0 0),(9,.ptr 9 g9 0 0),(12,.sl (l.map eS)),(13,I l.length),(14,I (i:Nat)),(29,.sl (x.k.M.map eR)),(30,I x.k.S.length),(31,I (k:Nat))])
   (fun k=>[(3,1,⟨41,4,[eR tr],2⟩),(5,A.length+k+1,⟨320,8,(A++(List.range k).map (bn x t)).map b_,1⟩),(7,g7,⟨196,7,[eS x],2⟩),(8,g8,⟨41,4,[eR (ofQ (mm x t))],2⟩),(9,g9,⟨41,4,[eR (E_ x.k k)],2⟩)]) (fun k=>x.k.S.length-k) 0 (aF _)
   ⟨O,by rw[List.range_zero,fC,cu];rfl,O,O,O,O,O,O,O,O,O,O,by rw[List.range_zero,fC,cu];rfl,ak⟩ ?_
  intro k s2 hk;refine D ?_ ?_<;>intro h
  .have hlk:k<x.k.S.length:=cP h;clear h;have hsx:=br (d:=0) hlk;have hmx:=br (l:=x.k.M) (i:=k) (d:=RR.zero) J;have hxb:=oF hxl.k k;have hzb:Zb (x.k.S.getD k 0):=aL hxb.1 hxb.2;have f1:=bH (x.k.S.getD k 0) hxb;rw[show((x.k.S.getD k 0:Int):Rat)=x.k.s k from O]at f1;have vs:Vq (ofQ (x.k.s k)) (x.k.s k) 4:=Vq.ofQ (h:=HQ.int);have f2:=mc (ofQ (x.k.s k)) (ofQ (mm x t)) (hx:=vs) (hy:=vb) Y J;have f3:=mc (x.k.M.getD k RR.zero) (E_ x.k k) (hx:=vY x.k hxl.k k) (hy:=rI x.k hxl.k k) Y Y;have hwk:=im k;have hrow:(A++(List.range (k+1)).map (bn x t)).map b_=(A++(List.range k).map (bn x t)).map b_++[eR (ofQ (x.k.s k-mm x t))++eR (ofQ (x.k.m k-bU x.k.m k))]:=by rw[ye,<-bt,bQ];rfl
   have hal:(A++(List.range k).map (bn x t)).length<=54:=by simp;omega
   generalize A++(List.range k).map (bn x t)=Ak,ofQ (x.k.s k-mm x t)=N1,ofQ (x.k.m k-bU x.k.m k)=N2,ofQ (x.k.s k)=N3 at *
   refine aZ hmx ?_;refine H ?_;refine cY [50,5] [14,15,16] aN ?_;refine aZ hsx ?_;refine G f1 ?_;refine G f2 ?_;refine G f3 ?_;refine H ?_;refine pK O O O (b8 1 O O O O O O O O O O O ak O ⟨nR O,?_⟩);refine H ?_;refine pK O O O (cQ 1 O O O O O O O O O O O ak (by intro row hr;first|(simp at hr;subst hr;rfl)|(simp at hr;obtain⟨_,_,rfl⟩:=hr;rfl)|simp at hr) O O aX aX ⟨nR O,?_⟩);refine H ?_;refine⟨k+1,hlk,J,O,?_,O,O,O,O,O,O,O,O,congrArg I hwk,O,?_,ak⟩
   .rw[hrow];rfl
   .rw[hrow];rfl
  .have hke:k=x.k.S.length:=cG h;clear h;subst hke;rw[show(List.range x.k.S.length).map (bn x t)=rj t x from O];have hgl:A.length+x.k.S.length=((l.take (i+1)).flatMap (rj t)).length:=by rw[hfl,bT,oP]
   rw[<-hfl,hgl];refine H ?_;exact⟨i+1,hlt,J,O,O,O,O,congrArg I hw,ak⟩
 .have hie:i=l.length:=cG h;clear h;subst hie;rw[bM];rw[show l.flatMap (rj t)=nD l t from O];have hsz:∀p∈nD l t,p.at'.sz 7000000:=fun p hp=>by
   obtain⟨s,hs,k,hk,rfl⟩:=Cj hp;have:=nK (yH (hl.1 s hs) ht.hq k).ok;exact⟨by have:=this.1;show(ofQ (s.k.s k-mm s t)).n.l.length<=7000000;omega,by have:=this.2;show(ofQ (s.k.s k-mm s t)).d.l.length<=7000000;omega⟩
  (refine dN 14 ?_;refine aD 1 ?_)
  refine g_ O ?_;refine bg ?_;refine aU O (hS.run O O hsz ⟨O,bP⟩ fun s1=>?_);rw[show da bO (nD l t)=Ci l t from O];have hol:(Ci l t).length=(nD l t).length:=fq _ _;have hol2:((nD l t).map b_).length=((Ci l t).map b_).length:=by simp[hol]
  rw[hol2];refine aE ?_;refine H ?_;exact jL O O O ak O
def prB (n:BN):Rat × Rat:=(n.at'.val,n.up.val)
def gY (b:BR)(t:Rat):Rat:=B1 (b.w:Rat) ((Ci b.l t).map prB) 0 0 0
theorem Fb {l:List SR}{t:Rat}{n:BN}(h:n∈Ci l t):∃s∈l,∃k,k<s.k.S.length/\n=bn s t k:=Cj ((jC bO _).mem_iff.1 h)
theorem wg {q:Rat}:ofQ (ofQ q).val=ofQ q:=by rw[ofQ_val]
theorem wS (b:BR)(hb:b.Ok){t:Rat}{m:Nat}(h40:(nD b.l t).length<=54)(hS:SortC (nD b.l t))(tr:RR)[ht:Vq tr t m](hm:m<=60000):bb 190 [.agg (eB b),.agg (eR tr)] (.agg (eA ⟨ofQ (gY b t),ofQ t⟩)):=by
 have hw0:=bH 0 ⟨Y,Y⟩;rw[show(((0:Int):Rat))=0 from O]at hw0;have hww:=bH b.w hb.lim.w;have zw:Zb b.w:=aL hb.lim.w.1 hb.lim.w.2;have vw:Vq (ofQ (b.w:Rat)) (b.w:Rat) 4:=Vq.ofQ (h:=HQ.int);have hbe:=uZ b.l hb.lim.l hb.chkL hb.few.2 (by have:=hb.few.1;omega) tr (m:=m) J h40 hS;have hlow:=FE tr J;have hol:(Ci b.l t).length=(nD b.l t).length:=fq _ _;have hol40:(Ci b.l t).length<=54:=J;have hat:∀n∈Ci b.l t,n.at'=ofQ n.at'.val/\n.up=ofQ n.up.val/\HQ n.at'.val (m+30)/\HQ n.up.val 27:=fun n hn=>by
  obtain⟨s,hs,k,hk,rfl⟩:=Fb hn;refine⟨wg.symm,wg.symm,?_,?_⟩
  .show HQ (ofQ (s.k.s k-mm s t)).val (m+30);rw[ofQ_val];exact(yH (hb.lim.l.1 s hs) ht.hq k).mono J
  .show HQ (ofQ (s.k.m k-bU s.k.m k)).val 27;rw[ofQ_val];exact qB (hb.lim.l.1 s hs).k k
 generalize hZ:gY b t=Z;rw[gY]at hZ;generalize Ci b.l t=B at *
 have hml:(B.map b_).length=B.length:=aj;obtain⟨w,ba,l⟩:=b;simp only at *
 generalize (w:Rat)=W at *
 refine ay Proofs.Tryz.func190 ?_;refine G hw0 ?_;refine G hw0 ?_;refine G hww ?_;refine G hw0 ?_;refine G hbe ?_;refine H ?_;refine ao (fun q:Nat × Rat × Rat × Rat=>q.1<=B.length/\B1 W ((B.drop q.1).map prB) q.2.1 q.2.2.1 q.2.2.2=Z/\HQ q.2.1 (q.1*(2*m+1700)+4)/\HQ q.2.2.1 (q.1*28+4)/\HQ q.2.2.2 (m+30)) (fun q=>[(3,.ptr 3 1 0 0),(4,.ptr 4 1 0 0),(5,.ptr 5 1 0 0),(6,.ptr 6 1 0 0),(7,.ptr 7 1 0 0),(8,.ptr 8 1 0 0),(21,.sl (B.map b_)),(22,I B.length),(23,I (q.1:Nat))])
  (fun q=>[(3,1,⟨41,4,[eR tr],2⟩),(4,1,⟨43,8,[zN++zN],2⟩),(5,1,⟨41,4,[eR (ofQ q.2.1)],2⟩),(6,1,⟨41,4,[eR (ofQ q.2.2.1)],2⟩),(7,1,⟨41,4,[eR (ofQ W)],2⟩),(8,1,⟨41,4,[eR (ofQ q.2.2.2)],2⟩)]) (fun q=>B.length-q.1) (0,0,0,0)
  ⟨aF _,by rw[fS];exact hZ,HQ.zero.mono J,HQ.zero.mono J,HQ.zero.mono J⟩ ⟨O,O,O,O,O,O,O,by rw[<-hml];rfl,ak⟩ ?_
 rintro⟨i,c,k,a⟩ s ⟨hi,hS,hc,hk,ha⟩;simp only at hi hS hc hk ha;dsimp only;have hcb:i*(2*m+1700)+4<=54*(2*m+1700)+4:=by have:=dr (show i<=54 by omega) (ji (2*m+1700));omega
 have vk:Vq (ofQ k) k (i*28+4):=Vq.ofQ (h:=hk);have vc:Vq (ofQ c) c (i*(2*m+1700)+4):=Vq.ofQ (h:=hc);have va:Vq (ofQ a) a (m+30):=Vq.ofQ (h:=ha);have sgk:=qQ (ofQ k) (hx:=vk) J;have hsk:=kf k;have t1:=mc (ofQ W) (ofQ c) (hx:=vw) (hy:=vc) Y J;have u1:Vq (ofQ (W-c)) (W-c) (4+(i*(2*m+1700)+4)+1):=Vq.ofQ (h:=@HQ.sub _ _ 4 _ (fh vw) hc);generalize hgk:sgn k=gk at *
 refine D ?_ ?_<;>intro h
 .have hlt:i<B.length:=cP h;clear h;obtain⟨x,hx⟩:=aK hlt;obtain⟨x1,x2,x3,x4⟩:=hat x (bG hx);have hdr:(B.drop i).map prB=prB x::(B.drop (i+1)).map prB:=by
   obtain⟨hl1,h2⟩:=bD hx;rw[lR hl1,h2];rfl
  rw[hdr,B1]at hS;have hw:=im i;obtain⟨xa,xu⟩:=x;obtain⟨p,rfl⟩:∃p,xa=ofQ p:=⟨_,x1⟩;obtain⟨u,rfl⟩:∃u,xu=ofQ u:=⟨_,x2⟩;clear x1 x2;simp only[prB,ofQ_val]at hS x3 x4;have vp:Vq (ofQ p) p (m+30):=Vq.ofQ (h:=x3);have vu:Vq (ofQ u) u 27:=Vq.ofQ (h:=x4);have e1:=mc (ofQ p) (ofQ a) (hx:=vp) (hy:=va) J J;have w1:Vq (ofQ (p-a)) (p-a) (m+30+(m+30)+1):=Vq.ofQ (h:=@HQ.sub _ _ _ _ x3 ha);have e2:=gu (ofQ k) (ofQ (p-a)) (hx:=vk) (hy:=w1) J J;have w2:Vq (ofQ (k*(p-a))) (k*(p-a)) (i*28+4+(m+30+(m+30)+1)):=Vq.ofQ (h:=@HQ.mul _ _ _ _ hk (fh w1));have e3:=dh (ofQ c) (ofQ (k*(p-a))) (hx:=vc) (hy:=w2) J J;have h3:HQ (c+k*(p-a)) ((i+1)*(2*m+1700)+4):=(@HQ.add _ _ _ _ hc (fh w2)).mono (by rw[be];omega);have w3:Vq (ofQ (c+k*(p-a))) (c+k*(p-a)) ((i+1)*(2*m+1700)+4):=Vq.ofQ (h:=h3);have hcb1:(i+1)*(2*m+1700)+4<=55*(2*m+1700)+4:=by have:=dr (show i+1<=55 by omega) (ji (2*m+1700));omega
  have e4:=mt (ofQ (c+k*(p-a))) (ofQ W) (hx:=w3) (hy:=vw) J Y;have hs4:=Ea (c+k*(p-a)-W);have e5:=dh (ofQ k) (ofQ u) (hx:=vk) (hy:=vu) J Y;have h5:HQ (k+u) ((i+1)*28+4):=(@HQ.add _ _ _ _ hk x4).mono J;have h6:HQ c ((i+1)*(2*m+1700)+4):=hc.mono (by rw[be];omega);by_cases hkp:0<k
  .have hkg:0<gk:=by rw[<-hgk];exact(kf k).2 hkp
   rw[if_pos hkp]at hS;by_cases hr:W<=c+k*(p-a)
   .rw[if_pos hr]at hS;have hr4:0<=sgn (c+k*(p-a)-W):=hs4.2 aW;have t2:=wt (ofQ (W-c)) (ofQ k) (hx:=u1) (hy:=vk) J J aW;have u2:Vq (ofQ ((W-c)/k)) ((W-c)/k) (4+(i*(2*m+1700)+4)+1+(i*28+4)):=Vq.ofQ (h:=@HQ.div _ _ _ _ (fh u1) hk);have t3:=dh (ofQ a) (ofQ ((W-c)/k)) (hx:=va) (hy:=u2) J J;rw[hS]at t3;generalize sgn (c+k*(p-a)-W)=g4,ofQ (c+k*(p-a))=Y1 at *
    refine aZ hx ?_;refine aB sgk ?_;refine D ?_ ?_<;>intro h
    .clear h;refine dN 8 ?_;refine ax (jW 11) ?_;refine cp [(8,11),(9,11)] aN aN ?_;refine G e1 ?_;refine G e2 ?_;refine G e3 ?_;refine aB e4 ?_;refine D ?_ ?_<;>intro h
     .clear h;refine aB sgk ?_;refine D ?_ ?_<;>intro h
      .clear h;refine dg 7 [53,54,55,56,57,58,59] ?_;refine G t1 ?_;refine G t2 ?_;refine G t3 ?_;refine dg 4 [60,61,62,63] ?_;refine G hlow ?_;exact cy
      .exact absurd hkg (cJ h)
     .exact absurd hr4 (cJ h)
    .exact absurd hkg (cJ h)
   .rw[if_neg hr]at hS;have hr4:¬0<=sgn (c+k*(p-a)-W):=fun h=>by have:=hs4.1 h;grind
    generalize sgn (c+k*(p-a)-W)=g4 at *
    generalize hY1:ofQ (c+k*(p-a))=Y1 at *
    generalize hY2:ofQ (k+u)=Y2 at *
    refine aZ hx ?_;refine aB sgk ?_;refine D ?_ ?_<;>intro h
    .clear h;refine dN 8 ?_;refine ax (jW 11) ?_;refine cp [(8,11),(9,11)] aN aN ?_;refine G e1 ?_;refine G e2 ?_;refine G e3 ?_;refine aB e4 ?_;refine D ?_ ?_<;>intro h
     .exact absurd (bK h) hr4
     .clear h;refine G e5 ?_;refine H ?_;refine⟨(i+1,c+k*(p-a),k+u,p),⟨hlt,hS,h3,h5,x3⟩,by simp only;omega,O,O,O,O,O,O,O,O,congrArg I hw,O,O,by rw[<-hY1];rfl,by rw[<-hY2];rfl,ak⟩
    .exact absurd hkg (cJ h)
  .have hkg:¬0<gk:=fun h=>hkp (by rw[<-hgk]at h;exact(kf k).1 h);rw[if_neg hkp]at hS;generalize hY2:ofQ (k+u)=Y2 at *
   refine aZ hx ?_;refine aB sgk ?_;refine D ?_ ?_<;>intro h
   .exact absurd (bK h) hkg
   .clear h;refine G e5 ?_;refine H ?_;refine⟨(i+1,c,k+u,p),⟨hlt,hS,h6,h5,x3⟩,by simp only;omega,O,O,O,O,O,O,O,O,congrArg I hw,O,O,O,by rw[<-hY2];rfl,ak⟩
 .have hie:i=B.length:=cG h;clear h;rw[hie,iw,fC,B1]at hS;by_cases hkp:0<k
  .have hkg:0<gk:=by rw[<-hgk];exact(kf k).2 hkp
   rw[if_pos hkp]at hS;have t2:=wt (ofQ (W-c)) (ofQ k) (hx:=u1) (hy:=vk) J J aW;have u2:Vq (ofQ ((W-c)/k)) ((W-c)/k) (4+(i*(2*m+1700)+4)+1+(i*28+4)):=Vq.ofQ (h:=@HQ.div _ _ _ _ (fh u1) hk);have t3:=dh (ofQ a) (ofQ ((W-c)/k)) (hx:=va) (hy:=u2) J J;rw[hS]at t3;refine aB sgk ?_;refine D ?_ ?_<;>intro h
   .clear h;refine dg 7 [53,54,55,56,57,58,59] ?_;refine G t1 ?_;refine G t2 ?_;refine G t3 ?_;refine dg 4 [60,61,62,63] ?_;refine G hlow ?_;exact cy
   .exact absurd hkg (cJ h)
  .have hkg:¬0<gk:=fun h=>hkp (by rw[<-hgk]at h;exact(kf k).1 h);rw[if_neg hkp]at hS;refine aB sgk ?_;refine D ?_ ?_<;>intro h
   .exact absurd (bK h) hkg
   .clear h;refine dg 4 [60,61,62,63] ?_;refine G hlow ?_;refine H ?_;exact CB O ak O ak (by rw[<-hS];rfl)
end Go.Pv
