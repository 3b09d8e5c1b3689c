/- Texts of one hand, gathered: FbI, FbJ, FbK, FbL, FbM, FbN, FbO, FbP, FbQ, FrA, FrB, FrC, FrD, FrE, FrF, FrG, FrH, FaE, FmA, FmB, FcA, PvRg, FcB, FcC, FmC, FmD, FmE, FmF, FmG, FmH, FmI, FcD, FcE, FcF, FcG, FcH, FcI, FcJ, FcK, FcL, FcM, FcN, FcO, FcP, LeC, Shelf, FcQ, FcR, FcS, FcT. -/
import Derived.Test.YtmfjgnchaacgnaaGreatBa2
import Derived.Sort.Grow
import Derived.Shelf.GgSortFunc.RowK
import Derived.Shelf.Small.Bits
import Derived.Shelf.Small.Wraps
import Derived.Shelf.Strconv.Itoa0
import Derived.Shelf.Sort.Plain
import Derived.Ground.Names2Prog
import Derived.Shelf.Slices.Clone
import Derived.Shelf.Slices.CompactI
import Derived.Shelf.Slices.SearchI
import Derived.Shelf.Slices.Cells
import Derived.Shelf.Slices.In.SortNone
import Derived.Test.YtmfjgnchaacgnaaGreatProg
import Derived.Lib.SlicesCompact
set_option maxRecDepth 20000
set_option linter.unusedSectionVars false
set_option linter.unusedSimpArgs false
set_option linter.unusedVariables false
set_option linter.unnecessarySimpa false
namespace Go.Pv
theorem GQ {R:List UInt16}{j m:Nat}(h:nv ((R.drop j).drop m)=0):uw R j m=nv (R.drop j):=by
 rcases Nat.le_total m (R.drop j).length with hm|hm
 .rw[uw,fv (R.drop j) m hm,h];omega
 .rw[uw,cV hm]
theorem AL {l:List UInt16}{m:Nat}(h:nv l<65536^m):nv (l.drop m)=0:=by
 rcases Nat.le_total m l.length with hm|hm
 .rw[fv l m hm]at h;rcases fY (nv (l.drop m)) with h0|h0
  .exact h0
  .have:=dw (65536^m) h0;omega
 .rw[pZ hm];rfl
theorem Md {R R':List UInt16}{j:Nat}(hl:R'.length=R.length)(h:∀t,t<j->ul R' t=ul R t):R'.take j=R.take j:=by
 apply i4;intro k;rw[cz,cz];split
 .rcases bG k R.length with hk|hk
  .rw[rW J,rW hk];congr 1;exact xE (h k ‹_›)
  .rw[fi hk,fi J]
 .rfl
theorem JD {R R':List UInt16}{j:Nat}(hl:R'.length=R.length)(h:∀t,j<=t->ul R' t=ul R t):R'.drop j=R.drop j:=by
 apply i4;intro k;rw[dx,dx];rcases bG (j+k) R.length with hk|hk
 .rw[rW J,rW hk];congr 1;exact xE (h (j+k) J)
 .rw[fi hk,fi J]
structure DivI (V:List UInt16) (N n A0:Nat) (z:Nat × List UInt16 × List UInt16):Prop where
 k:z.1<=N-n
 r:z.2.1.length=N
 q:z.2.2.length=N-n
 v:nv z.2.1+nv V*(65536^z.1*nv (z.2.2.drop z.1))=A0
 lt:nv (z.2.1.drop z.1)<nv V
theorem FB {V:List UInt16}{N n A0 j:Nat}{R Q:List UInt16}(hV:V.length=n)(hn:n<N)(h:DivI V N n A0 (j+1,R,Q)):uw R j (n+1)=nv (R.drop j)/\uw R j (n+1)<65536*nv V/\j+(n+1)<=R.length:=by
 have h1:=h.k;have h2:=h.r;have h5:=h.lt;simp only at h1 h2 h5;have hlt:nv (R.drop (j+1))<65536^n:=Nat.lt_trans h5 (by rw[<-hV];exact dJ V);have hz:=AL hlt;have e1:uw R j (n+1)=nv (R.drop j):=GQ (by rw[oH,show j+(n+1)=(j+1)+n by omega,<-oH];exact hz);have e2:=i8 (rW (R:=R) (i:=j) J);have:=cg (R.getD j 0);exact⟨e1,by rw[e1,e2];omega,J⟩
theorem JB {V:List UInt16}{N n A0 j:Nat}{R Q R':List UInt16}(hV:V.length=n)(hn:n<N)(hV0:0<nv V)(h:DivI V N n A0 (j+1,R,Q))(hd:Digd R V j n R') :
  uw R j (n+1)/nv V<65536/\DivI V N n A0 (j,R',Q.set j (UInt16.ofNat (uw R j (n+1)/nv V))):=by
 obtain⟨w1,w2,w3⟩:=FB hV hn h;have h1:=h.k;have h2:=h.r;have h3:=h.q;have h4:=h.v;have h5:=h.lt;simp only at h1 h2 h3 h4 h5;have hql:uw R j (n+1)/nv V<65536:=mg (by rw[c_];exact w2);have hRl:=hd.l;have htk:R'.take j=R.take j:=Md hRl fun t ht=>hd.o t (.inl ht);have hlt:nv (R.drop (j+1))<65536^n:=Nat.lt_trans h5 (by rw[<-hV];exact dJ V);have hz:=AL hlt;have hdr:R'.drop (j+(n+1))=R.drop (j+(n+1)):=JD hRl fun t ht=>hd.o t (.inr ht);have e1:uw R' j (n+1)=nv (R'.drop j):=GQ (by rw[oH,hdr,show j+(n+1)=(j+1)+n by omega,<-oH];exact hz);have e2:nv (R'.drop j)=nv (R.drop j)%nv V:=by rw[<-e1,hd.v,w1]
 refine⟨hql,by simp only;omega,by simp only;omega,by simp[h3],?_,?_⟩
 .simp only;have s1:=fv R' j J;have s2:=fv R j J;rw[htk,e2]at s1;rw[w1]at hql ⊢;rw[drop_set_self' J,nv,bY,d_ hql,s1,<-h4,s2];have e3:=ms (nv (R.drop j)) (nv V);have e4:nv V*(65536^j*(nv (R.drop j)/nv V+65536*nv (Q.drop (j+1))))=65536^j*(nv V*(nv (R.drop j)/nv V))+nv V*(65536^(j+1)*nv (Q.drop (j+1))):=by
   rw[cq,cq,cW];congr 1
   .simp only[mn]
   .simp only[cP]
  rw[e4];have e5:65536^j*(nv (R.drop j)%nv V)+65536^j*(nv V*(nv (R.drop j)/nv V))=65536^j*nv (R.drop j):=by rw[<-cq];congr 1;omega
  omega
 .simp only;rw[e2];exact fL _ hV0
where
 drop_set_self' {l:List UInt16} {i:Nat} {y:UInt16} (h:i<l.length):(l.set i y).drop i=y::l.drop (i+1):=by
  have h1:(l.set i y)[i]? = some y:=fq h;have h2:=zW (l:=l.set i y) (i:=i);rw[h1]at h2;rw[h2];show y::(l.set i y).drop (i+1)=_;congr 1;apply i4;intro j;rw[dx,dx,eo J]
theorem MY {V:List UInt16}{N n a b s:Nat}{R Q:List UInt16}(hV:nv V=b*2^s)(hb:0<b)(h:DivI V N n (a*2^s) (0,R,Q)):nv Q=a/b/\nv R=a%b*2^s:=by
 have h4:=h.v;have h5:=h.lt;simp only[ep,Nat.pow_zero,fK]at h4 h5;have hp:0<2^s:=iX Y;rw[hV]at h4 h5;have e1:nv Q=a*2^s/(b*2^s):=by
  rw[<-h4,ux _ _ (mu hb hp),rx h5];omega
 have e2:nv R=a*2^s%(b*2^s):=by
  rw[<-h4,z8,d_ h5]
 rw[Nat.mul_div_mul_right _ _ hp]at e1;rw[Nat.mul_mod_mul_right]at e2;exact⟨e1,e2⟩
theorem Hj {V a b R Q:List UInt16}{s:Nat}(hVl:V.length=b.length)(hV:nv V=nv b*2^s)(hbl:b.length<=a.length)(hs:s<=15)(htop:32768*65536^(b.length-1)<=nv V)(hb:1<=b.length)(hRl:R.length=a.length+1)(hR:nv R=nv a*2^s)(hQl:Q.length=a.length+1-b.length)(hQ:nv Q=0\/True) :
  DivI V (a.length+1) b.length (nv a*2^s) (a.length+1-b.length,R,Q):=by
 refine⟨a_,hRl,hQl,?_,?_⟩
 .simp only;rw[pZ J,nv,rC,rC,hR];omega
 .simp only;refine gS ?_ htop;have h1:=fv R (a.length+1-b.length) J;have h2:=dJ a;have hp:0<65536^(a.length+1-b.length):=qi _;have hs2:2^s<=32768:=gh (n:=2) Y hs;have h3:nv a*2^s<65536^a.length*32768:=by
   have:=dw (nv a) hs2;have:=(oC (show 0<32768 by decide)).2 h2;omega
  have h4:65536^a.length=65536^(a.length+1-b.length)*65536^(b.length-1):=by rw[<-iY];congr 1;omega
  rw[h4,cP]at h3;rw[hR]at h1;rw[h1]at h3;have h5:65536^(a.length+1-b.length)*nv (R.drop (a.length+1-b.length))<65536^(a.length+1-b.length)*(65536^(b.length-1)*32768):=J;have:=F7 h5;rw[c_];exact this
theorem LC {R:List UInt16}{i s:Nat}(hs:s<=15)(hi:i+1<R.length):(ul R i+65536*ul R (i+1))/2^s%65536=nv R/2^s/65536^i%65536:=by
 have e1:nv R/65536^i=nv (R.drop i):=by
  rw[fv R i J,ux _ _ (qi _),rx (jx R i)];omega
 rw[Nat.div_div_eq_div_mul (nv R),c_ (2^s),<-Nat.div_div_eq_div_mul,e1,i8 (rW J),i8 (rW (i:=i+1) J)];show(ul R i+65536*ul R (i+1))/2^s%65536=(ul R i+65536*(ul R (i+1)+65536*nv (R.drop (i+1+1))))/2^s%65536;generalize nv (R.drop (i+1+1))=H0;have hd:2^s*2^(16-s)=65536:=by rw[<-iY,show s+(16-s)=16 by omega]
 have e2:ul R i+65536*(ul R (i+1)+65536*H0)=(ul R i+65536*ul R (i+1))+2^s*(65536*(2^(16-s)*H0)):=by
  have:2^s*(65536*(2^(16-s)*H0))=65536*(65536*H0):=by
   rw[mn,<-cP (2^s),hd]
  rw[this];omega
 rw[e2,ux _ _ (iX Y),z8]
structure RemI (R:List UInt16) (n s:Nat) (k:Nat × List UInt16):Prop where
 i:k.1<=n
 l:k.2.length=n
 v:nv (k.2.take k.1)=nv R/2^s%65536^k.1
theorem K_ {R Q:List UInt16}{n s i:Nat}(h:RemI R n s (i,Q))(hs:s<=15)(hR:n+1<=R.length)(hi:i<n):RemI R n s (i+1,Q.set i (UInt16.ofNat ((ul R i+65536*ul R (i+1))/2^s))):=by
 obtain⟨h1,h2,h3⟩:=h;simp only at h1 h2 h3;refine⟨hi,by simp[h2],?_⟩;simp only;rw[gi (i:=i) (fq J),take_set',h3,bY,LC hs J,Nat.mod_pow_succ]
where
 take_set' {l:List UInt16} {i:Nat} {y:UInt16}:nv ((l.set i y).take i)=nv (l.take i):=by
  congr 1;apply i4;intro j;rw[cz,cz];split
  .rw[eo J]
  .rfl
set_option maxHeartbeats 2000000
attribute [local irreducible] PWP POps PQuiet PSem aF aw ai ak
open Go.Proofs
theorem QR {x y:Nat}(hx:x<65536)(hy:y<65536):bits .or .u32 (x:Int) ((y*65536:Nat):Int)=((x+65536*y:Nat):Int):=by
 rw[bits_join_low .u32 32 Y wraps_u32 16 _ _ J J J J J J];omega
def M1 (a b:List UInt16):PV := .tup [.sl ((aM (nv a/nv b)).map eU),.sl ((aM (nv a%nv b)).map eU)]
theorem Hk (a b:List UInt16)(ha:a.length<=100000000)(hb:b.length<=100000000)(hta:Trm a)(htb:Trm b)(hlt:nv a<nv b):aO 225 [.sl (a.map eU),.sl (b.map eU)] (M1 a b):=by
 have hc:=kV a b J J;have hneg:=(kq hta htb).1.2 hlt;rw[M1,rx hlt,d_ hlt,cM,kC hta];generalize o0 a b=c at *
 refine ax Proofs.Tryz.func225 ?_;refine aj hc ?_;refine D ?_ ?_<;>intro h
 .clear h;refine H ?_;refine Tb O O O (vL a J) O O ?_
  (repeat ((fail_if_success (with_reducible refine da ?_));refine qy O ?_))
  refine am (Ghost.nilsl (t:=4) O) ?_;refine H ?_;exact DY O O O O O trivial trivial O
 .have:=aE h;omega
theorem DW (a:List UInt16)(b:UInt16)(ha:a.length<=100000000)(hta:Trm a)(htb:Trm [b])(hge:nv [b]<=nv a):aO 225 [.sl (a.map eU),.sl [eU b]] (M1 a [b]):=by
 have hc:=kV a [b] J ao;have hneg:¬o0 a [b]<0:=fun h=>by have:=(kq hta htb).1.1 h;omega
 have hb0:0<b.toNat:=by have:=htb b O;omega
 have hs:=Iy a b ha hb0;have hnb:nv [b]=b.toNat:=by simp[nv]
 rw[M1,hnb];have hml:=fL (nv a) hb0;have hbl:=cg b;have hx:=eG [UInt16.ofNat (nv a%b.toNat)] ao;have hxv:bN [UInt16.ofNat (nv a%b.toNat)]=aM (nv a%b.toNat):=by
  rw[bN];congr 1;simp[nv];omega
 rw[hxv]at hx;have hxe:([UInt16.ofNat (nv a%b.toNat)].map eU)=[[PV.int .u16 ((nv a%b.toNat:Nat):Int)]]:=by
  show [[PV.int .u16 _]]=_;rw[bY,d_ J]
 rw[hxe]at hx;generalize o0 a [b]=c,nv a%b.toNat=m at *
 refine ax Proofs.Tryz.func225 ?_;refine aj hc ?_;refine D ?_ ?_<;>intro h
 .have:=aB h;omega
 clear h;refine H ?_;refine cf O O (KY O O O O O Y O O) ?_;refine G hs ?_;refine H ?_;refine cf O O (fw O O O O O O O O O O aH O) ?_;refine G hx ?_;refine H ?_;exact DY O O O O O trivial trivial O
set_option maxRecDepth 40000 in
set_option maxHeartbeats 4000000 in
theorem BT (a b:List UInt16){n:Nat}(ha:a.length<=100000000)(hb:b.length=n+2)(hta:Trm a)(htb:Trm b)(hge:nv b<=nv a):aO 225 [.sl (a.map eU),.sl (b.map eU)] (M1 a b):=by
 have hba:b.length<=a.length:=by
  rcases bG a.length b.length with h|h
  .exfalso;have h1:=Ff htb (k:=n+1) hb;have h2:=dJ a;have h3:65536^a.length<=65536^(n+1):=fO J;omega
  .exact h
 have hc:=kV a b J J;have hneg:¬o0 a b<0:=fun h=>by have:=(kq hta htb).1.1 h;omega
 have hbml:(b.map eU).length=n+2:=by rw[aR,hb]
 have hbt:=rW (R:=b) (i:=n+1) J;have ht0:ul b (n+1)≠0:=htb _ (by rw[uk,hb,show n+2-1=n+1 by omega];exact hbt);have hlead:=Kk (b.getD (n+1) 0) ht0;have hl16:=Cl ht0 (cg _);rw[show(b.getD (n+1) 0).toNat=ul b (n+1) from O]at hlead;have hb0:0<nv b:=by
  have h1:=Ff htb (k:=n+1) hb;have:=qi (n+1);omega
 have hbtl:=gD b (n+1);have hbtop:nv b=uw b 0 (n+1)+65536^(n+1)*ul b (n+1):=by
  have h1:=gN (R:=b) (j:=0) (m:=n+1) J;rw[xJ hb (a_),aX]at h1;exact h1
 generalize hlt:pq (ul b (n+1))=t at *
 obtain⟨s,hs⟩:∃s,s=16-t:=⟨_,O⟩;rw[<-hs]at hlead;have hs15:s<=15:=J;have hgs:32768<=ul b (n+1)*2^s/\ul b (n+1)*2^s<65536:=by
  have e1:2^t*2^s=65536:=by rw[<-iY,show t+s=16 by omega]
  have h1:=cu (2^s) hl16.2.2.1;have h2:=(oC (iX (show 0<2 by decide):0<2^s)).2 hl16.2.2.2;rw[e1]at h1 h2;rw[cP]at h1;omega
 have hsO:=Bg a s ha J;have hsF:=Dc b s J J;obtain⟨V,hVd⟩:∃V,V=(nD (b.length+1) (nv b*2^s)).take (n+2):=⟨_,O⟩;have hp:0<2^s:=iX Y;have hblt:nv b*2^s<65536^(n+2):=by
  have h1:=zj b 0 (n+1);have h2:nv b<65536^(n+1)*(ul b (n+1)+1):=by rw[hbtop,cq];omega
  have h3:=(oC hp).2 h2;have h4:(ul b (n+1)+1)*2^s<=65536:=by
   have e1:2^t*2^s=65536:=by rw[<-iY,show t+s=16 by omega]
   rw[<-e1];exact cu _ hl16.2.2.2
  have h5:=dw (65536^(n+1)) h4;rw[<-cP]at h5;rw[cW];omega
 have hVl:V.length=n+2:=by rw[hVd,bw,nE,hb];omega
 have hVv:nv V=nv b*2^s:=by
  have h1:=fv (nD (b.length+1) (nv b*2^s)) (n+2) (by rw[nE];omega);have h2:nv (nD (b.length+1) (nv b*2^s))=nv b*2^s:=zI _ _ (gS hblt (fO J));have h3:nv ((nD (b.length+1) (nv b*2^s)).drop (n+2))=0:=AL (by rw[h2];exact hblt);rw[h2,h3,<-hVd]at h1;omega
 have hVtop:32768<=ul V (n+1):=by
  have h1:=gN (R:=V) (j:=0) (m:=n+1) J;rw[xJ hVl (a_),aX]at h1;have h2:=zj V 0 (n+1);have h3:65536^(n+1)*32768<=nv V:=by
   rw[hVv,hbtop,cb,cP];have:=dw (65536^(n+1)) hgs.1;omega
  rcases bG (ul V (n+1)) 32768 with h|h
  .exfalso;have:=dw (65536^(n+1)) (show ul V (n+1)+1<=32768 by omega);rw[cq]at this;omega
  .exact h
 have hV32:32768*65536^(b.length-1)<=nv V:=by
  rw[hVv,hbtop,hb,show n+2-1=n+1 by omega,cb,cP];have:=dw (65536^(n+1)) hgs.1;rw[c_ (65536^(n+1)) 32768]at this;omega
 have hV0:0<nv V:=by rw[hVv];exact mu hb0 hp
 have hRl:=nE (a.length+1) (nv a*2^s);have hRv:nv (nD (a.length+1) (nv a*2^s))=nv a*2^s:=zI _ _ (by
  have h1:=(oC hp).2 (dJ a);have h2:2^s<=2^16:=gh (n:=2) Y (show s<=16 by omega);rw[show 2^16=65536 by decide]at h2;have:=dw (65536^a.length) h2
  rw[cW];omega)
 have hstart:=fun Q hQ=>Hj (V:=V) (a:=a) (b:=b) (Q:=Q) (hVl.trans hb.symm) hVv hba hs15 hV32 J hRl hRv hQ (.inr trivial);generalize nD (a.length+1) (nv a*2^s)=R0 at *
 rw[M1];generalize o0 a b=c at *
 have c1:IntKind.i64.wrap (((n+2:Nat):Int)-1)=((n+1:Nat):Int):=by rw[wrap_i64 J J];omega
 have c2:IntKind.i64.wrap (((R0.map eU).length:Nat)-((n+2:Nat):Int))=((a.length+1-(n+2):Nat):Int):=by rw[aR,hRl,wrap_i64 J J];omega
 have c3:IntKind.i64.wrap (((a.length+1-(n+2):Nat):Int)-1)=((a.length+1-(n+2):Nat):Int)-1:=by rw[wrap_i64 J J]
 have hbi:(b.map eU)[((n+1:Nat):Int).toNat]? = some [PV.int .u16 ((ul b (n+1):Nat):Int)]:=vR J;refine ax Proofs.Tryz.func225 ?_;refine aj hc ?_;refine D ?_ ?_<;>intro h
 .have:=aB h;omega
 clear h;refine H ?_;rw[hbml];refine H ?_;rw[hbml,c1];refine cf O O (KY O O O O O J hbi O) ?_;refine aj hlead ?_;refine H ?_;refine bj [44] [2] aK ?_;refine H ?_;refine lr O O O (Nn O hsO O aH O ⟨gZ O,?_⟩);refine RM hsF ?_;refine H ?_;rw[hbml];refine cf O O (RL 0 (n+2) O O O O (.inl ⟨O,O⟩) (.inr ⟨_,_,O,O⟩) J (by rw[nE];omega) (fun _=>rfl)) ?_;rw[ep,<-hVd];have hVml:(V.map eU).length=n+2:=by rw[aR,hVl]
 refine H ?_;rw[hVml];refine H ?_;rw[c2];refine ay (mO O O O O O O O O J (by show(2:Int)*_<=_;omega) J ?_);rw[br,qk];refine H ?_;rw[c2];refine H ?_;rw[c3];rw[hb]at hstart hba;have hst0:=hstart (List.replicate (a.length+1-(n+2)) 0) ao;clear hstart;refine ah (DivI V (a.length+1) (n+2) (nv a*2^s)) (fun z=>[(4,.als 57 1 0 (z.2.2.map eU).length),(8,I s),(9,.als 44 1 0 (z.2.1.map eU).length),(10,.fsl (V.map eU)),(11,I ((n+2:Nat):Int)),(12,I ((z.1:Int)-1))])
  (fun z=>OM 1 1 z.2.1 z.2.2) (fun z=>z.1) (a.length+1-(n+2),R0,List.replicate (a.length+1-(n+2)) 0) hst0 ⟨O,O,O,O,O,O,O,O,trivial⟩ ?_
 rintro⟨k,R,Q⟩ s1 hI;have hk:=hI.k;have hRl2:=hI.r;have hQl:=hI.q;simp only at hk hRl2 hQl;dsimp only;refine D ?_ ?_<;>intro h
 .have hk0:0<k:=by have:=aB h;omega
  clear h;obtain⟨j,rfl⟩:∃j,k=j+1:=⟨k-1,J⟩;have e1:(((j+1:Nat):Int)-1)=(j:Nat):=J;rw[e1];obtain⟨w1,w2,w3⟩:=FB hVl J hI;have hRml:(R.map eU).length=a.length+1:=by rw[aR,hRl2]
  have e2:IntKind.i64.wrap (IntKind.i64.wrap ((j:Int)+((n+2:Nat):Int))+1)=((j+(n+3):Nat):Int):=by
   rw[wrap_i64 (n:=(j:Int)+((n+2:Nat):Int)) J J,wrap_i64 J J];omega
  obtain⟨r,hr⟩:=sw (R:=Q) (i:=j) J
  (refine cN 13 ?_;refine aU 10 ?_)
  refine H ?_;rw[e2];refine cf O O (RK j (j+(n+3)) O O O O O O (.inr ⟨_,_,O,O⟩) (.inr ⟨_,_,O,O⟩) J (by rw[hRml];omega)) ?_;rw[aX j,show j+(n+3)-j=n+3 by omega];refine H ?_;refine bC O (JA (n:=n) (j:=j) (R:=R) (V:=V) (Qr:=Q) hVl J J hVtop w2 O O ⟨O,O,trivial⟩ fun s3 R' hd=>?_);obtain⟨hq16,hnx⟩:=JB hVl J hV0 hI hd;refine aW ?_;refine H ?_;refine cf O O (cQ O O O O O O O J (by rw[aR];omega)) ?_;rw[br,aX j];rw[show PV.int .u16 ((uw R j (n+3)/nv V:Nat):Int)=PV.int .u16 ((UInt16.ofNat (uw R j (n+3)/nv V)).toNat:Int) by rw[bY,d_ hq16]];refine ec (cK (kd':=0) O O O hr O O aH O O O O ?_);refine H ?_;refine⟨(j,R',Q.set j (UInt16.ofNat (uw R j (n+3)/nv V))),hnx,by simp only;omega,?_,O,?_,O,O,?_,O,?_,trivial⟩
  .show PV.als 57 1 0 (Q.map eU).length=_;simp
  .show PV.als 44 1 0 (R.map eU).length=_;rw[aR,aR,hd.l]
  .exact congrArg I (wrap_i64 J J)
  .exact ib 1 57 1 0 j Q (UInt16.ofNat (uw R j (n+3)/nv V))
 .have hk0:k=0:=by have:=aE h;omega
  subst hk0;clear h;obtain⟨hQv,hRv2⟩:=MY hVv hb0 hI;refine H ?_;refine ay (mO O O O O O O O O J (by show(2:Int)*_<=_;omega) J ?_);generalize (s1.own 80).1=g8;rw[br,qk];refine H ?_;refine ah (RemI R (n+2) s) (fun q=>[(4,.als 57 1 0 (Q.map eU).length),(5,.als 80 (g8+1) 0 (q.2.map eU).length),(8,I s),(9,.als 44 1 0 (R.map eU).length),(81,I ((n+2:Nat):Int)),(82,I q.1)])
   (fun q=>[(44,1,⟨57,1,R.map eU,0⟩),(57,1,⟨57,1,Q.map eU,0⟩),(80,g8+1,⟨57,1,q.2.map eU,0⟩)]) (fun q=>n+2-q.1) (0,List.replicate (n+2) 0) ⟨aP _,ao,by simp[nv];omega⟩ ⟨O,O,O,O,O,O,O,O,O,trivial⟩ ?_
  rintro⟨i,P⟩ s3 hJ;have hi:=hJ.i;have hPl:=hJ.l;simp only at hi hPl;dsimp only;refine D ?_ ?_<;>intro h
  .have hi2:i<n+2:=by have:=aB h;omega
   clear h;have hst:=K_ hJ hs15 J hi2;have h1:=qS (R:=R) (i:=i) J;have h2:=qS (R:=R) (i:=i+1) J;have b1:=gD R i;have b2:=gD R (i+1);have hsh:=Pe (x:=ul R (i+1)) b2;have hor:=QR b1 b2;obtain⟨r,hr⟩:=sw (R:=P) (i:=i) J;have ei:IntKind.i64.wrap ((i:Int)+1)=((i+1:Nat):Int):=by rw[wrap_i64 J J];omega
   refine cO 19 [85,86,87,88,89,90,91,92,93,94,95,96,97,98,99,100,101,102,103] ?_;refine H ?_;refine cf O O (cQ O O O O O O O J (by rw[aR];omega)) ?_;rw[br,aX i];refine cf O O (dK O O O h1 O) ?_;refine H ?_;rw[vh R i];refine H ?_;rw[ei];refine cf O O (cQ O O O O O O O J (by rw[aR];omega)) ?_;rw[br,aX (i+1)];refine cf O O (dK O O O h2 O) ?_;refine H ?_;rw[vh R (i+1)];refine H ?_;rw[hsh];refine H ?_;rw[hor];refine H ?_;refine cf O O (QOp.v O (show(0:Int)<=(s:Int)/\(s:Int)<=(IntKind.u32.bits:Nat) by constructor;omega;show(s:Int)<=32;omega)) ?_;rw[show((ul R i+65536*ul R (i+1):Nat):Int)/2^((s:Nat):Int).toNat=(((ul R i+65536*ul R (i+1))/2^s:Nat):Int) by rw[br,Int.natCast_ediv,Int.natCast_pow];rfl];refine H ?_;rw[wrap_u16];refine cf O O (cQ O O O O O O O J (by rw[aR];omega)) ?_;rw[br,aX i];refine H ?_;refine ec (cK (kd':=0) O O O hr O O aH O O O O ?_);refine H ?_;refine⟨(i+1,_),hst,by simp only;omega,O,?_,O,O,O,dg J J,O,O,?_,trivial⟩
   .show PV.als 80 (g8+1) 0 (P.map eU).length=_;simp
   .exact ib (g8+1) 57 1 0 i P (UInt16.ofNat ((ul R i+65536*ul R (i+1))/2^s))
  .have hi2:i=n+2:=by have:=aE h;omega
   subst hi2;clear h;have hPv:nv P=nv a%nv b:=by
    have h1:=hJ.v;simp only at h1;rw[cV J,hRv2,Nat.mul_div_cancel _ hp]at h1;rw[h1];refine d_ (Nat.lt_trans (fL _ hb0) ?_);rw[<-hb];exact dJ b
   have ht1:=eG Q J;rw[bN,hQv]at ht1;have ht2:=eG P J;rw[bN,hPv]at ht2
   (refine cN 20 ?_;refine aU 1 ?_)
   refine H ?_;refine bC O (gA (Ghost.takeF (enc:=eU) (t:=105) (Q) O O (O) O (fun _=>rfl)) ?_)
   (refine pe (gp O (ht1) O ?_ O) ?_;.repeat' constructor)
   refine bC O (gA (Ghost.refl _) (RG O trivial ?_));refine bC O (gA (Ghost.takeF (enc:=eU) (t:=107) (P) O O (O) O (fun _=>rfl)) ?_)
   (refine pe (gp O (ht2) O ?_ O) ?_;.repeat' constructor)
   refine aW ?_;refine H ?_;exact DY O O O O O trivial trivial O
theorem pJ (a b:List UInt16)(ha:a.length<=100000000)(hb:b.length<=100000000)(hta:Trm a)(htb:Trm b)(hb0:nv b≠0):aO 225 [.sl (a.map eU),.sl (b.map eU)] (M1 a b):=by
 rcases bG (nv a) (nv b) with h|h
 .exact Hk a b ha hb hta htb h
 .match b,hb,htb,hb0,h with
  |[],_,_,hb0,_=>exact absurd rfl hb0
  |[x],_,htb,_,h=>exact DW a x ha hta htb h
  |x::y::l,hb,htb,_,h=>exact BT a (x::y::l) (n:=l.length) ha rfl hta htb h
theorem HO:aM 1=[1]:=by rw[gL Y,show 1/65536=0 by decide,cM];rfl
theorem ie {n m:Nat}(h:n<=m):(aM n).length<=(aM m).length:=by
 refine dO ?_;have:=dJ (aM m);rw[bh]at this;omega
theorem fM (l:List UInt16):(aM (nv l)).length<=l.length:=dO (dJ l)
theorem DO (a b:List UInt16)(ha:a.length<=100000000)(hb:b.length<=100000000)(hta:Trm a)(htb:Trm b):aO 224 [.sl (a.map eU),.sl (b.map eU)] (.sl ((aM (Nat.gcd (nv a) (nv b))).map eU)):=by
 generalize hg:Nat.gcd (nv a) (nv b)=g;refine ax Proofs.Tryz.func224 ?_;refine H ?_;refine ah (fun q:List UInt16 × List UInt16=>q.1.length<=100000000/\q.2.length<=100000000/\Trm q.1/\Trm q.2/\Nat.gcd (nv q.1) (nv q.2)=g) (fun q=>[(0,.sl (q.1.map eU)),(1,.sl (q.2.map eU))]) (fun _=>[]) (fun q=>nv q.2) (a,b) ⟨ha,hb,hta,htb,hg⟩ ⟨O,O,trivial⟩ ?_;rintro⟨A,B⟩ s ⟨hA,hB,htA,htB,hG⟩;simp only at hA hB htA htB hG;dsimp only;have hBm:(B.map eU).length=B.length:=ao;refine D ?_ ?_<;>intro h
 .have hB0:0<B.length:=by have:=aB h;omega
  clear h;have hB0v:nv B≠0:=by
   match B,hB0,htB with
   |x::l,_,h=>exact vf h
  have hw1:=Dz A J;have hw2:=Dz B J;have main:(A.length<=4/\B.length<=4)\/¬(A.length<=4/\B.length<=4):=dD _;have hd:=pJ A B hA hB htA htB hB0v;rw[M1]at hd;have hml:=fL (nv A) (mE hB0v);have hnext:(aM (nv A%nv B)).length<=100000000:=by
   have h1:=ie (mt hml);have h2:=fM B;omega
  have hG2:Nat.gcd (nv B) (nv (aM (nv A%nv B)))=g:=by rw[bh,iW,<-rD,iW];exact hG
  by_cases h1:A.length<=4
  .rw[if_pos h1]at hw1;have hAl:nv A<18446744073709551616:=by
    have:=dJ A;have h3:65536^A.length<=65536^4:=fO h1;have:(65536:Nat)^4=18446744073709551616:=Y;omega
   by_cases h2:B.length<=4
   .rw[if_pos h2]at hw2;have hBl:nv B<18446744073709551616:=by
     have:=dJ B;have h3:65536^B.length<=65536^4:=fO h2;have:(65536:Nat)^4=18446744073709551616:=Y;omega
    clear main hd;generalize nv A=av,nv B=bv at *
    refine aj hw1 ?_;refine aj hw2 ?_;refine H ?_;refine ah (fun q:Nat × Nat=>q.1<18446744073709551616/\q.2<18446744073709551616/\Nat.gcd q.1 q.2=g) (fun q=>[(5,.int .u64 (q.1:Nat)),(7,.int .u64 (q.2:Nat))]) (fun _=>[]) (fun q=>q.2) (av,bv) ⟨hAl,hBl,hG⟩ ⟨O,O,trivial⟩ ?_;rintro⟨x,y⟩ s2 ⟨hx,hy,hg2⟩;simp only at hx hy hg2;dsimp only;refine D ?_ ?_<;>intro h
    .have hy0:0<y:=by have:=aB h;omega
     clear h;have hm:=fL x hy0;refine H ?_;refine bj [] [] aK ?_;refine H ?_;refine cf O O (QOp.v O (show ¬((y:Nat):Int)=0 by omega)) ?_;rw[n6];refine H ?_;exact⟨(y,x%y),⟨hy,by simp only;omega,by simp only;rw[iW,<-rD,iW];exact hg2⟩,hm,O,O,trivial⟩
    .have hy0:y=0:=by have:=aE h;omega
     subst hy0;clear h;rw[rp]at hg2;subst hg2;refine G (tE x hx) ?_;refine H ?_;exact lB O O O trivial O
   .rw[if_neg h2]at hw2;refine aj hw1 ?_;refine aj hw2 ?_;refine G hd ?_;refine H ?_;exact⟨(B,aM (nv A%nv B)),⟨hB,hnext,htB,cH _,hG2⟩,by simp only;rw[bh];exact hml,O,O,trivial⟩
  .rw[if_neg h1]at hw1;by_cases h2:B.length<=4
   .rw[if_pos h2]at hw2;refine aj hw1 ?_;refine aj hw2 ?_;refine G hd ?_;refine H ?_;exact⟨(B,aM (nv A%nv B)),⟨hB,hnext,htB,cH _,hG2⟩,by simp only;rw[bh];exact hml,O,O,trivial⟩
   .rw[if_neg h2]at hw2;refine aj hw1 ?_;refine aj hw2 ?_;refine G hd ?_;refine H ?_;exact⟨(B,aM (nv A%nv B)),⟨hB,hnext,htB,cH _,hG2⟩,by simp only;rw[bh];exact hml,O,O,trivial⟩
 .have hB0:B.length=0:=by have:=aE h;omega
  clear h;have hB0v:=oB.1 hB0;subst hB0v;rw[nv,rp]at hG;rw[<-hG,kC htA];refine H ?_;exact lB O O O trivial O
theorem Cv (a b:RI)(hb:nv b.l≠0):ofQ ((a.val:Rat)/(b.val:Rat))=⟨du (iQ (a.neg != b.neg) (nv a.l/Nat.gcd (nv a.l) (nv b.l))),du (iQ false (nv b.l/Nat.gcd (nv a.l) (nv b.l)))⟩:=by
 have hbv:b.val≠0:=by intro h;have:=b.val_abs;rw[h]at this;exact hb this.symm
 rw[Nr _ _ hbv,a.val_abs,b.val_abs,uT,uT];have hg:0<Nat.gcd (nv a.l) (nv b.l):=Aa _ (mE hb);have hbg:nv b.l/Nat.gcd (nv a.l) (nv b.l)≠0:=by
  have:=Nat.div_pos (Nat.le_of_dvd (mE hb) (Nat.gcd_dvd_right (nv a.l) (nv b.l))) hg;omega
 rw[if_neg hbg];congr 1;by_cases ha:nv a.l=0
 .rw[ha,Nat.zero_div,if_pos O,cM];congr 1;have hav:a.val=0:=by rw[RI.val,ha];simp
  rw[hav];simp
 .have hag:nv a.l/Nat.gcd (nv a.l) (nv b.l)≠0:=by
   have:=Nat.div_pos (Nat.le_of_dvd (mE ha) (Nat.gcd_dvd_left (nv a.l) (nv b.l))) hg;omega
  rw[if_neg hag];congr 1;have e1:a.val<0↔a.neg=true:=by rw[RI.val];split<;>simp_all<;>omega
  have e2:0<a.val↔a.neg=false:=by rw[RI.val];split<;>simp_all<;>omega
  have e3:b.val<0↔b.neg=true:=by rw[RI.val];split<;>simp_all<;>omega
  have e4:0<b.val↔b.neg=false:=by rw[RI.val];split<;>simp_all<;>omega
  simp only[e1,e2,e3,e4];cases a.neg<;>cases b.neg<;>rfl
theorem gJ (a b:RI)(ha:a.l.length<=90000000)(hb:b.l.length<=90000000)(hb0:nv b.l≠0):aO 164 [.agg (eI a),.agg (eI b)] (.agg (eR (ofQ ((a.val:Rat)/(b.val:Rat))))):=by
 rw[Cv a b hb0];obtain⟨an,al⟩:=a;obtain⟨bn,bl⟩:=b;simp only at ha hb hb0;dsimp only;have hta:=eG al J;have htb:=eG bl J;have hla:=fM al;have hlb:=fM bl;have hc:=DO (aM (nv al)) (aM (nv bl)) J J (cH _) (cH _);rw[bh,bh]at hc;have hg0:0<Nat.gcd (nv al) (nv bl):=Aa _ (mE hb0);have hgl:Nat.gcd (nv al) (nv bl)<=nv bl:=Nat.gcd_le_right _ (mE hb0);generalize Nat.gcd (nv al) (nv bl)=g at *
 rw[bN]at hta htb;have hgs:(aM g).length<=90000000:=by have:=ie hgl;omega
 have hda:=pJ (aM (nv al)) (aM g) J J (cH _) (cH _) (by rw[bh];omega);have hdb:=pJ (aM (nv bl)) (aM g) J J (cH _) (cH _) (by rw[bh];omega);rw[M1,bh,bh]at hda hdb;have hsa:=iF (an != bn) (aM (nv al/g)) (by have:=ie (ju (nv al) g);omega);have hsb:=iF false (aM (nv bl/g)) (by have:=ie (ju (nv bl) g);omega);rw[bh]at hsa hsb;have hm:((aM g).map eU).length=(aM g).length:=ao;by_cases hg1:g=1
 .subst hg1;rw[Nat.div_one]at hsa hsb;rw[Nat.div_one,Nat.div_one];rw[HO]at hc;generalize aM (nv al)=A,aM (nv bl)=B,du (iQ (an != bn) (nv al))=X,du (iQ false (nv bl))=Y0 at *
  refine ax Proofs.Tryz.func164 ?_;refine cO 8 [8,9,10,11,12,13,5,6] ?_;refine G hta ?_;refine G htb ?_;refine G hc ?_;refine H ?_;refine cf O O (i9 O O O O O J (show([1]:List UInt16)[0]? = some 1 from O) O) ?_;refine G hsa ?_;refine G hsb ?_;exact bW
 .have hne:aM g≠[1]:=by
   intro h;have:=bh g;rw[h]at this;exact hg1 (by rw[<-this];rfl)
  generalize aM (nv al)=A,aM (nv bl)=B,du (iQ (an != bn) (nv al/g))=X,du (iQ false (nv bl/g))=Y0,aM g=G0,aM (nv al/g)=A2,aM (nv bl/g)=B2 at *
  refine ax Proofs.Tryz.func164 ?_;refine cO 8 [8,9,10,11,12,13,5,6] ?_;refine G hta ?_;refine G htb ?_;refine G hc ?_;refine H ?_;by_cases hl:G0.length=1
  .obtain⟨x,rfl⟩:=Ad.1 hl;have hx:x.toNat≠1:=fun h=>hne (by have h2:x=1:=xE h;rw[h2]);refine H ?_;refine cf O O (i9 O O O O O J (show [x][0]? = some x from O) O) ?_;refine D ?_ ?_<;>intro h
   .clear h;refine G hda ?_;refine G hdb ?_;refine G hsa ?_;refine G hsb ?_;exact bW
   .exfalso;simp at h;omega
  .refine LP O O O ?_ ?_<;>intro h
   .refine G hda ?_;refine G hdb ?_;refine G hsa ?_;refine G hsb ?_;exact bW
   .exfalso;simp at h;omega
def r9 (z:Int):Int:=if z=0 then 0 else if z<0 then -1 else 1
theorem RI.val_zero (a:RI):a.val=0↔nv a.l=0:=by rw[RI.val];split<;>omega
theorem tl {l:List UInt16}:(bN l).length=0↔nv l=0:=by
 constructor
 .intro h;have h1:=fy l;rw[oB.1 h]at h1;exact h1.symm
 .intro h;rw[bN,h,cM];rfl
theorem rQ (a:RI)(ha:a.l.length<=300000000):aO 222 [.agg (eI a)] (I (r9 a.val)):=by
 have ht:=eG a.l J;have hm:((bN a.l).map eU).length=(bN a.l).length:=ao;have h0:=tl (l:=a.l);have hz:=a.val_zero;have hv:a.val=if a.neg then -(nv a.l:Int) else(nv a.l:Int):=O
 generalize bN a.l=T at *
 obtain⟨an,al⟩:=a;simp only at *
 refine ax Proofs.Tryz.func222 ?_;refine G ht ?_;refine D ?_ ?_<;>intro h
 .have h1:nv al=0:=h0.1 (by have:=aB h;omega);rw[r9,if_pos (hz.2 h1)];exact co
 .have h1:nv al≠0:=by
   intro h1;have h2:=aE h;have:=h0.2 h1;omega
  rw[r9,if_neg (fun h=>h1 (hz.1 h))];clear h;cases an
  .rw[if_neg (by rw[hv];simp only[cF,if_false];omega)];exact co
  .rw[if_pos (by rw[hv];simp only[if_true];omega)];exact co
def dn (x:RR):RI:=if nv x.d.l=0 then⟨false,[1]⟩ else x.d
theorem PM (x:RR):(dn x).val=x.d.den:=by
 rw[dn,RI.den];split
 .rfl
 .rfl
theorem FD (x:RR):nv (dn x).l≠0:=by
 rw[dn];split
 .decide
 .assumption
theorem PK {x:RR}{n:Nat}(h:x.d.l.length<=n)(hn:1<=n):(dn x).l.length<=n:=by
 rw[dn];split
 .exact hn
 .exact h
theorem RR.val_dn (x:RR):x.val=(x.n.val:Rat)/((dn x).val:Rat):=by rw[PM];rfl
theorem gG (x:RR)(hx:x.d.l.length<=300000000):aO 163 [.agg (eR x)] (.agg (eI (dn x))):=by
 have hs:=rQ x.d hx;rw[dn];by_cases h0:nv x.d.l=0
 .rw[if_pos h0];rw[r9,if_pos (x.d.val_zero.2 h0)]at hs;refine ax Proofs.Tryz.func163 ?_;refine aj hs ?_;refine H ?_;refine ay (aY 0 O O O O O O O O O O O aH O ?_);exact bW
 .rw[if_neg h0];have h1:r9 x.d.val≠0:=by rw[r9,if_neg (fun h=>h0 (x.d.val_zero.1 h))];split<;>decide
  generalize r9 x.d.val=v at *
  refine ax Proofs.Tryz.func163 ?_;refine aj hs ?_;refine D ?_ ?_<;>intro h
  .exact absurd (aB h) h1
  .exact bW
theorem pX (x:RR)(hx:x.n.l.length<=300000000):aO 161 [.agg (eR x)] (.bool (decide (x.val=0))):=by
 have hs:=rQ x.n hx;have e:decide (x.val=0)=decide (r9 x.n.val=0):=by
  have h1:=x.n.val_zero;by_cases h:nv x.n.l=0
  .rw[decide_eq_true (x.zero_iff.2 h),r9,if_pos (h1.2 h)];rfl
  .rw[decide_eq_false (fun h2=>h (x.zero_iff.1 h2)),r9,if_neg (fun h2=>h (h1.1 h2))];split<;>rfl
 rw[e];refine ax Proofs.Tryz.func161 ?_;refine aj hs ?_;exact fC
theorem NO (a b:Int)(hb:b≠0):r9 a*r9 b=if a=0 then 0 else if (a<0/\0<b)\/(0<a/\b<0) then -1 else 1:=by
 unfold r9;rw[if_neg hb];by_cases h0:a=0
 .rw[if_pos h0,if_pos h0];omega
 .rw[if_neg h0,if_neg h0];split<;>split<;>split<;>omega
theorem GF (x:RR):sgn x.val=r9 x.n.val*r9 (dn x).val:=by
 have hd:(dn x).val≠0:=by rw[Ne,RI.val_zero];exact FD x
 rw[NO _ _ hd,RR.val_dn];generalize x.n.val=a;generalize (dn x).val=b at *
 have h:=(uY a b hd).2.2;rw[sgn];have hq:(a:Rat)/(b:Rat)=0↔a=0:=by
  have hb:(b:Rat)≠0:=by exact_mod_cast hd
  constructor
  .intro h;have:(a:Rat)=0:=bM
   exact_mod_cast this
  .intro h;subst h;grind
 have hlt:(a:Rat)/(b:Rat)<0↔(a<0/\0<b)\/(0<a/\b<0):=by
  rw[<-h];have h1:=Rat.num_nonneg (q:=(a:Rat)/(b:Rat));grind
 by_cases h0:a=0
 .rw[if_pos h0,if_neg (by rw[hlt];omega),if_pos (hq.2 h0)]
 .rw[if_neg h0];by_cases h1:(a<0/\0<b)\/(0<a/\b<0)
  .rw[if_pos h1,if_pos (hlt.2 h1)]
  .rw[if_neg h1,if_neg (fun h=>h1 (hlt.1 h)),if_neg (fun h=>h0 (hq.1 h))]
theorem tG (z:Int):(du z).l=aM z.natAbs:=rfl
theorem RI.lt (a:RI):a.val.natAbs<65536^a.l.length:=by rw[RI.val_abs];exact dJ _
theorem eE (a b:RI):(du (a.val*b.val)).l.length<=a.l.length+b.l.length:=by
 rw[tG,jv];exact dO (jX a.lt b.lt)
theorem Cx (a b:RI){n:Nat}(ha:a.l.length<=n)(hb:b.l.length<=n):(du (a.val+b.val)).l.length<=n+1:=by
 rw[tG];refine dO ?_;have h1:=a.lt;have h2:=b.lt;have h3:=fO ha;have h4:=fO hb;rw[cW];omega
theorem Bz {A B:List UInt16}{n:Nat}(hA:A.length<=n)(hB:B.length<=n):(aM (nv A+nv B)).length<=n+1:=by
 refine dO ?_;have h1:=dJ A;have h2:=dJ B;have h3:=fO hA;have h4:=fO hB;rw[cW];omega
theorem kE (a b:RI)(ha:a.l.length<=90000000)(hb:b.l.length<=90000000):aO 166 [.agg (eI a),.agg (eI b)] (.agg (eI (du (a.val*b.val)))):=by
 have e:a.val*b.val=iQ (a.neg != b.neg) (nv a.l*nv b.l):=by
  rw[a.val_sgz,b.val_sgz];cases a.neg<;>cases b.neg<;>simp[iQ,Int.neg_mul,Int.mul_neg]
 have hl:=eE a b;rw[e]at hl ⊢;have hta:=eG a.l J;have htb:=eG b.l J;have hla:=dr a.l;have hlb:=dr b.l;have ht:=IL (bN a.l) (bN b.l) J J;rw[fy,fy]at ht;have hs:=iF (a.neg != b.neg) (aM (nv a.l*nv b.l)) (by
  have:=dO (jX (dJ a.l) (dJ b.l));omega)
 rw[bh]at hs;obtain⟨an,al⟩:=a;obtain⟨bn,bl⟩:=b;simp only at *
 generalize bN al=A,bN bl=B,aM (nv al*nv bl)=C,du (iQ (an != bn) (nv al*nv bl))=X at *
 refine ax Proofs.Tryz.func166 ?_;refine cO 13 [5,6,7,8,9,10,11,12,13,14,15,16,17] ?_;refine G hta ?_;refine G htb ?_;refine G ht ?_;refine G hs ?_;exact bW
theorem Jd (a b:RI)(ha:a.l.length<=90000000)(hb:b.l.length<=90000000):aO 165 [.agg (eI a),.agg (eI b)] (.agg (eI (du (a.val+b.val)))):=by
 have hta:=eG a.l J;have htb:=eG b.l J;have hla:=dr a.l;have hlb:=dr b.l;have hA:=jC a.l;have hB:=jC b.l;have hnA:=fy a.l;have hnB:=fy b.l;rw[a.val_sgz,b.val_sgz];obtain⟨an,al⟩:=a;obtain⟨bn,bl⟩:=b;simp only at *
 rw[<-hnA,<-hnB];generalize bN al=A,bN bl=B at *
 have hp:=KS A B J J;have hcm:=kV A B J J;have hcs:=(kq hA hB).1;have hlA:=fM A;have hlB:=fM B;have hlp:(aM (nv A+nv B)).length<=300000000:=by
  have:=Bz (n:=100000000) (A:=A) (B:=B) J J;omega
 by_cases hs:an=bn
 .subst hs;have hd:=iF an (aM (nv A+nv B)) hlp;rw[bh]at hd;have e:iQ an (nv A)+iQ an (nv B)=iQ an (nv A+nv B):=by cases an<;>simp only[iQ,cF,if_false,if_true]<;>omega
  rw[e];generalize aM (nv A+nv B)=C,du (iQ an (nv A+nv B))=X at *
  refine ax Proofs.Tryz.func165 ?_;refine cO 8 [7,8,9,10,11,12,5,6] ?_;refine G hta ?_;refine G htb ?_;refine D ?_ ?_<;>intro h
  .clear h;refine cO 6 [18,19,20,21,22,23] ?_;refine G hp ?_;refine G hd ?_;exact bW
  .exfalso;simp at h
 .have hmA:nv B<=nv A->aO 229 [.sl (A.map eU),.sl (B.map eU)] (.sl ((aM (nv A-nv B)).map eU)):=yE A B J J;have hmB:nv A<=nv B->aO 229 [.sl (B.map eU),.sl (A.map eU)] (.sl ((aM (nv B-nv A)).map eU)):=yE B A J J;have hlm:(aM (nv A-nv B)).length<=300000000:=by have:=ie (Nat.sub_le (nv A) (nv B));omega
  have hlm2:(aM (nv B-nv A)).length<=300000000:=by have:=ie (Nat.sub_le (nv B) (nv A));omega
  have hdA:=iF an (aM (nv A-nv B)) hlm;have hdB:=iF bn (aM (nv B-nv A)) hlm2;rw[bh]at hdA hdB;have eA:nv B<=nv A->iQ an (nv A)+iQ bn (nv B)=iQ an (nv A-nv B):=by intro h;cases an<;>cases bn<;>simp_all only [iQ,cF,if_false,if_true,not_true_eq_false,reduceCtorEq,not_false_eq_true]<;>omega
  have eB:nv A<=nv B->iQ an (nv A)+iQ bn (nv B)=iQ bn (nv B-nv A):=by intro h;cases an<;>cases bn<;>simp_all only [iQ,cF,if_false,if_true,not_true_eq_false,reduceCtorEq,not_false_eq_true]<;>omega
  generalize iQ an (nv A)+iQ bn (nv B)=Z,aM (nv A-nv B)=C,aM (nv B-nv A)=D0 at *
  generalize hX:du (iQ an (nv A-nv B))=X at *
  generalize hY:du (iQ bn (nv B-nv A))=Y0 at *
  refine ax Proofs.Tryz.func165 ?_;refine cO 8 [7,8,9,10,11,12,5,6] ?_;refine G hta ?_;refine G htb ?_;refine D ?_ ?_<;>intro h
  .exfalso;simp at h;exact hs h
  .clear h;refine aj hcm ?_;refine D ?_ ?_<;>intro h
   .have hge:nv B<=nv A:=by
     have h1:=aB h;omega
    clear h;refine cO 6 [28,29,30,31,32,33] ?_;refine G (hmA hge) ?_;refine G hdA ?_;refine H ?_;exact DZ O aH O aH (by rw[eA hge,hX];rfl)
   .have hge:nv A<=nv B:=by
     have h1:=aE h;omega
    clear h;refine cO 6 [34,35,36,37,38,39] ?_;refine G (hmB hge) ?_;refine G hdB ?_;refine H ?_;exact DZ O aH O aH (by rw[eB hge,hY];rfl)
theorem j4 {x:RR}{n:Nat}(h:x.d.l.length<=n):(dn x).l.length<=n+1:=PK J J
theorem pK (x:RR):(dn x).val≠0:=by rw[Ne,RI.val_zero];exact FD x
theorem Ep {z:Int}(h:z≠0):nv (du z).l≠0:=by rw[tG,bh];omega
theorem AT (a:RI):aO 268 [.agg (eI a)] (.agg (eI ⟨!a.neg,a.l⟩)):=by
 obtain⟨an,al⟩:=a;refine ax Proofs.Tryz.func268 ?_;exact bW
theorem wE (x:RR)(hn:x.n.l.length<=80000000)(hd:x.d.l.length<=80000000):aO 162 [.agg (eR x)] (.agg (eR (ofQ x.val))):=by
 have hb:=gG x J;have hf:=gJ x.n (dn x) J (by have:=j4 hd;omega) (FD x);rw[<-RR.val_dn]at hf;generalize dn x=D0,ofQ x.val=X at *
 refine ax Proofs.Tryz.func162 ?_;refine cO 5 [3,4,5,6,7] ?_;refine G hb ?_;refine G hf ?_;exact bW
theorem AK (x:RR)(hn:x.n.l.length<=80000000)(hd:x.d.l.length<=80000000):aO 231 [.agg (eR x)] (.agg (eR (ofQ (-x.val)))):=by
 have hb:=gG x J;have ho:=AT x.n;have hf:=gJ ⟨!x.n.neg,x.n.l⟩ (dn x) (by simp only;omega) (by have:=j4 hd;omega) (FD x);have e:(RI.mk (!x.n.neg) x.n.l).val = -x.n.val:=by unfold RI.val;cases x.n.neg<;>simp
 rw[e,<-NG,<-RR.val_dn]at hf;generalize dn x=D0,ofQ (-x.val)=X,RI.mk (!x.n.neg) x.n.l=N at *
 refine ax Proofs.Tryz.func231 ?_;refine cO 6 [3,4,5,6,7,8] ?_;refine G ho ?_;refine G hb ?_;refine G hf ?_;exact bW
theorem By (x y:RR)(hxn:x.n.l.length<=20000000)(hxd:x.d.l.length<=20000000)(hyn:y.n.l.length<=20000000)(hyd:y.d.l.length<=20000000):aO 91 [.agg (eR x),.agg (eR y)] (.agg (eR (ofQ (x.val+y.val)))):=by
 have hzx:=pX x J;have hzy:=pX y J;have hlx:=wE x J J;have hly:=wE y J J;have hbx:=gG x J;have hby:=gG y J;have hdx:=j4 hxd;have hdy:=j4 hyd;have l1:=eE x.n (dn y);have l2:=eE y.n (dn x);have l3:=eE (dn x) (dn y);have m1:=kE x.n (dn y) J J;have m2:=kE y.n (dn x) J J;have m3:=kE (dn x) (dn y) J J;have l4:=Cx (du (x.n.val*(dn y).val)) (du (y.n.val*(dn x).val)) (n:=45000000) J J;have m4:=Jd (du (x.n.val*(dn y).val)) (du (y.n.val*(dn x).val)) J J;rw[di,di]at m4 l4;have m5:=gJ (du (x.n.val*(dn y).val+y.n.val*(dn x).val)) (du ((dn x).val*(dn y).val)) J J (Ep (oG (pK x) (pK y)));rw[di,di,<-AY _ _ _ _ (pK x) (pK y),<-RR.val_dn,<-RR.val_dn]at m5;have e0:x.val=0->ofQ (x.val+y.val)=ofQ y.val:=fun h=>by rw[h,Rat.zero_add]
 have e1:y.val=0->ofQ (x.val+y.val)=ofQ x.val:=fun h=>by rw[h,jN]
 generalize du (x.n.val*(dn y).val+y.n.val*(dn x).val)=W5,du (x.n.val*(dn y).val)=W1,du (y.n.val*(dn x).val)=W2,du ((dn x).val*(dn y).val)=W3 at *
 generalize dn x=A,dn y=B,ofQ (x.val+y.val)=X,ofQ x.val=X1,ofQ y.val=X2 at *
 generalize x.val=xv,y.val=yv at *
 refine ax Proofs.Tryz.func91 ?_;refine aj hzx ?_;refine D ?_ ?_<;>intro h
 .have e:=e0 (aB h);subst e;clear h;refine G hly ?_;exact bW
 clear h;refine aj hzy ?_;refine D ?_ ?_<;>intro h
 .have e:=e1 (aB h);subst e;clear h;refine G hlx ?_;exact bW
 clear h;refine H ?_;refine be [(4,5),(5,6),(6,5),(7,6)] aK aK ?_;refine G hbx ?_;refine G hby ?_;refine cO 13 [19,20,21,22,23,24,25,26,27,28,29,30,31] ?_;refine G m1 ?_;refine G m2 ?_;refine G m4 ?_;refine G m3 ?_;refine G m5 ?_;exact bW
theorem fF {q:Rat}{n:Nat}(h:hq q n):(ofQ q).n.l.length<=n/\(ofQ q).d.l.length<=n:=(po h).ok
theorem eY (x y:RR){p q:Rat}{n m:Nat}[hx:Vq x p n][hy:Vq y q m](hn:n<=20000000)(hm:m<=20000000):aO 91 [.agg (eR x),.agg (eR y)] (.agg (eR (ofQ (p+q)))):=by
 have h1:=hx.sz;have h2:=hy.sz;have:=By x y J J J J;rwa [hx.val,hy.val]at this
theorem KE {x:RR}{n:Nat}(h1:x.n.l.length<=n)(h2:x.d.l.length<=n):(ofQ (-x.val)).n.l.length<=n+1/\(ofQ (-x.val)).d.l.length<=n+1 :=
 fF (wg (SZ.hq (x:=x) ⟨h1,h2⟩))
theorem L6 (x y:RR)(hxn:x.n.l.length<=10000000)(hxd:x.d.l.length<=10000000)(hyn:y.n.l.length<=10000000)(hyd:y.d.l.length<=10000000):aO 169 [.agg (eR x),.agg (eR y)] (.agg (eR (ofQ (x.val-y.val)))):=by
 have hneg:=AK y J J;have hl:=KE hyn hyd;have ha:=By x (ofQ (-y.val)) J J J J;rw[ofQ_val,<-mD]at ha;generalize ofQ (-y.val)=Y0,ofQ (x.val-y.val)=X at *
 refine ax Proofs.Tryz.func169 ?_;refine cO 4 [5,6,7,8] ?_;refine G hneg ?_;refine G ha ?_;exact bW
theorem np (x y:RR){p q:Rat}{n m:Nat}[hx:Vq x p n][hy:Vq y q m](hn:n<=10000000)(hm:m<=10000000):aO 169 [.agg (eR x),.agg (eR y)] (.agg (eR (ofQ (p-q)))):=by
 have h1:=hx.sz;have h2:=hy.sz;have:=L6 x y J J J J;rwa [hx.val,hy.val]at this
theorem Ku (x y:RR)(hxn:x.n.l.length<=20000000)(hxd:x.d.l.length<=20000000)(hyn:y.n.l.length<=20000000)(hyd:y.d.l.length<=20000000):aO 109 [.agg (eR x),.agg (eR y)] (.agg (eR (ofQ (x.val*y.val)))):=by
 have hbx:=gG x J;have hby:=gG y J;have hdx:=j4 hxd;have hdy:=j4 hyd;have l1:=eE x.n y.n;have l3:=eE (dn x) (dn y);have m1:=kE x.n y.n J J;have m3:=kE (dn x) (dn y) J J;have m5:=gJ (du (x.n.val*y.n.val)) (du ((dn x).val*(dn y).val)) J J (Ep (oG (pK x) (pK y)));rw[di,di,<-A5,<-RR.val_dn,<-RR.val_dn]at m5;generalize du (x.n.val*y.n.val)=W1,du ((dn x).val*(dn y).val)=W3 at *
 generalize dn x=A,dn y=B,ofQ (x.val*y.val)=X at *
 refine ax Proofs.Tryz.func109 ?_;refine cO 11 [5,6,7,8,9,10,11,12,13,14,15] ?_;refine G m1 ?_;refine G hbx ?_;refine G hby ?_;refine G m3 ?_;refine G m5 ?_;exact bW
theorem i7 (x y:RR){p q:Rat}{n m:Nat}[hx:Vq x p n][hy:Vq y q m](hn:n<=20000000)(hm:m<=20000000):aO 109 [.agg (eR x),.agg (eR y)] (.agg (eR (ofQ (p*q)))):=by
 have h1:=hx.sz;have h2:=hy.sz;have:=Ku x y J J J J;rwa [hx.val,hy.val]at this
theorem Ib (x y:RR)(hxn:x.n.l.length<=20000000)(hxd:x.d.l.length<=20000000)(hyn:y.n.l.length<=20000000)(hyd:y.d.l.length<=20000000)(h0:y.val≠0):aO 273 [.agg (eR x),.agg (eR y)] (.agg (eR (ofQ (x.val/y.val)))):=by
 have hbx:=gG x J;have hby:=gG y J;have hdx:=j4 hxd;have hdy:=j4 hyd;have hy0:y.n.val≠0:=by rw[Ne,RI.val_zero,<-RR.zero_iff];exact h0
 have l1:=eE x.n (dn y);have l3:=eE (dn x) y.n;have m1:=kE x.n (dn y) J J;have m3:=kE (dn x) y.n J J;have m5:=gJ (du (x.n.val*(dn y).val)) (du ((dn x).val*y.n.val)) J J (Ep (oG (pK x) hy0));rw[di,di,<-A4,<-RR.val_dn,<-RR.val_dn]at m5;generalize du (x.n.val*(dn y).val)=W1,du ((dn x).val*y.n.val)=W3 at *
 generalize dn x=A,dn y=B,ofQ (x.val/y.val)=X at *
 refine ax Proofs.Tryz.func273 ?_;refine cO 11 [5,6,7,8,9,10,11,12,13,14,15] ?_;refine G hby ?_;refine G m1 ?_;refine G hbx ?_;refine G m3 ?_;refine G m5 ?_;exact bW
theorem RH (x y:RR){p q:Rat}{n m:Nat}[hx:Vq x p n][hy:Vq y q m](hn:n<=20000000)(hm:m<=20000000)(h0:q≠0):aO 273 [.agg (eR x),.agg (eR y)] (.agg (eR (ofQ (p/q)))):=by
 have h1:=hx.sz;have h2:=hy.sz;have:=Ib x y J J J J (by rw[hy.val];exact h0);rwa [hx.val,hy.val]at this
theorem xj (x:RR)(hn:x.n.l.length<=20000000)(hd:x.d.l.length<=20000000):aO 168 [.agg (eR x)] (I (sgn x.val)):=by
 have hb:=gG x J;have h1:=rQ x.n J;have h2:=rQ (dn x) (by have:=j4 hd;omega);rw[GF];have hw:IntKind.i64.wrap (r9 x.n.val*r9 (dn x).val)=r9 x.n.val*r9 (dn x).val:=by
  refine wrap_i64 ?_ ?_<;>(unfold r9;split<;>split<;>(try split)<;>(try split)<;>omega)
 generalize r9 x.n.val=s1,r9 (dn x).val=s2 at *
 generalize dn x=D0 at *
 refine ax Proofs.Tryz.func168 ?_;refine cO 8 [3,4,5,6,7,8,9,2] ?_;refine aj h1 ?_;refine G hb ?_;refine aj h2 ?_;refine H ?_;rw[hw];exact pm O O O
theorem Pf (x:RR){p:Rat}{n:Nat}[hx:Vq x p n](hn:n<=20000000):aO 168 [.agg (eR x)] (I (sgn p)):=by
 have h1:=hx.sz;have:=xj x J J;rwa [hx.val]at this
theorem FR (x:RR){p:Rat}{n:Nat}[hx:Vq x p n](hn:n<=20000000):aO 161 [.agg (eR x)] (.bool (decide (p=0))):=by
 have h1:=hx.sz;have:=pX x J;rwa [hx.val]at this
theorem kw (x y:RR){p q:Rat}{n m:Nat}[hx:Vq x p n][hy:Vq y q m](hn:n<=8000000)(hm:m<=8000000):aO 93 [.agg (eR x),.agg (eR y)] (I (sgn (p-q))):=by
 have h1:=hx.sz;have h2:=hy.sz;have hs:=np x y J J;have hh:hq (p-q) (n+1+(m+1)+1):=(HQ.sub (h1:=hx.hq) (h2:=hy.hq)).ok;have hl:=fF hh;have hg:=xj (ofQ (p-q)) J J;rw[ofQ_val]at hg;generalize ofQ (p-q)=X,sgn (p-q)=g at *
 refine ax Proofs.Tryz.func93 ?_;refine G hs ?_;refine aj hg ?_;exact co
theorem CQ (x y:RR){p q:Rat}{n m:Nat}[hx:Vq x p n][hy:Vq y q m](hn:n<=20000000)(hm:m<=20000000):aO 243 [.agg (eR x),.agg (eR y)] (if q=0 then .tup [.agg (eR RR.zero),I 9] else .tup [.agg (eR (ofQ (p/q))),I 0]):=by
 have hz:=FR y hm;by_cases h0:q=0
 .rw[if_pos h0];rw[decide_eq_true h0]at hz;refine ax Proofs.Tryz.func243 ?_;refine aj hz ?_
  ((repeat ((fail_if_success (with_reducible refine da ?_));refine qy O ?_));refine am (Ghost.nilcell (k:=1007) (k0:=4) (i:=0) (j:=1) 57 1 0 O O O O (row:=[.bool false,.nil,.bool false,.nil]) O O O) ?_;refine am (Ghost.nilcell (k:=1021) (k0:=4) (i:=0) (j:=3) 57 1 0 O O O O (row:=[.bool false,_,.bool false,.nil]) O O O) ?_)
  exact bW
 .rw[if_neg h0];rw[decide_eq_false h0]at hz;have ho:=RH x y hn hm h0;generalize ofQ (p/q)=X at *
  refine ax Proofs.Tryz.func243 ?_;refine aj hz ?_;refine G ho ?_;exact bW
theorem nO {z:Int}(h:z.natAbs<18446744073709551616):(du z).l.length<=4:=by
 rw[tG];refine dO ?_;have:(65536:Nat)^4=18446744073709551616:=Y;omega
theorem tW (z:Int):IntKind.u64.wrap z=z%18446744073709551616:=by
 have e:(2:Int)^64=18446744073709551616:=Y;simp only[IntKind.wrap,IntKind.bits,IntKind.signed,eP,cF,if_false,e]
theorem DA {z:Int}(h0 : -9223372036854775808<=z)(h1:z<0):IntKind.u64.wrap (0-(IntKind.u64.wrap z))=((z.natAbs:Nat):Int):=by
 rw[tW,tW];omega
theorem AO (z:Int)(h0 : -9223372036854775808<=z)(h1:z<=9223372036854775807):aO 180 [I z] (.agg (eI (du z))):=by
 have hn:=tE z.natAbs J;have hl:=nO (z:=z) J;rw[tG]at hl;have hs:=iF (decide (z<0)) (aM z.natAbs) J;rw[bh]at hs;have e:iQ (decide (z<0)) z.natAbs=z:=by
  by_cases h:z<0
  .rw[decide_eq_true h,iQ,if_pos O];omega
  .rw[decide_eq_false h,iQ,if_neg Y];omega
 rw[e]at hs;generalize du z=X at *
 by_cases hz:z<0
 .have hw:=DA h0 hz;rw[decide_eq_true hz]at hs;generalize aM z.natAbs=A at *
  refine ax Proofs.Tryz.func180 ?_;refine D ?_ ?_<;>intro h
  .clear h;refine H ?_;rw[hw];refine sT O O O hn O O ?_;refine G hs ?_;exact bW
  .exact absurd hz (aE h)
 .have hw:IntKind.u64.wrap z=((z.natAbs:Nat):Int):=by
   rw[wrap_u64 J J];omega
  rw[decide_eq_false hz]at hs;generalize aM z.natAbs=A at *
  refine ax Proofs.Tryz.func180 ?_;refine D ?_ ?_<;>intro h
  .exact absurd (aB h) hz
  .clear h;refine H ?_;rw[hw];refine sT O O O hn O O ?_;refine G hs ?_;exact bW
theorem oY (a:RI)(ha:a.l.length<=90000000):aO 179 [.agg (eI a)] (.agg (eR (ofQ (a.val:Rat)))):=by
 have hf:=gJ a ⟨false,[1]⟩ ha Y Y;rw[show(RI.mk false [1]).val=1 by rfl]at hf;rw[show((a.val:Rat)/((1:Int):Rat))=(a.val:Rat) by grind]at hf;generalize ofQ (a.val:Rat)=X at *
 refine ax Proofs.Tryz.func179 ?_;refine H ?_;refine cf O O (fw O O O O O O O O O O aH O) ?_;refine G hf ?_;exact bW
theorem jw (z:Int)(h0 : -9223372036854775808<=z)(h1:z<=9223372036854775807):aO 283 [I z] (.agg (eR (ofQ (z:Rat)))):=by
 have ho:=AO z h0 h1;have hw:=oY (du z) (by have:=nO (z:=z) J;omega);rw[di]at hw;generalize ofQ (z:Rat)=X,du z=Z at *
 refine ax Proofs.Tryz.func283 ?_;refine G ho ?_;refine G hw ?_;exact bW
def fW (l:List UInt16)(i:Nat):Nat:=(l.getD i 0).toNat
theorem iw (l:List UInt16)(i:Nat):fW l i<65536:=cg _
theorem Jw {l:List UInt16}{i:Nat}(h:l.length<=i):fW l i=0:=by
 rw[fW,cY,fi h];rfl
theorem yF (l:List UInt16)(i:Nat):nv (l.take (i+1))=nv (l.take i)+65536^i*fW l i:=by
 rcases bG i l.length with h|h
 .exact gi (dY h)
 .rw[Jw h,cV h,cV J];omega
structure RPlus (A B:List UInt16) (q:Nat × List UInt16 × Nat):Prop where
 l:q.2.1.length=q.1
 c:q.2.2<=1
 k:q.1<=A.length+B.length+1
 v:nv q.2.1+65536^q.1*q.2.2=nv (A.take q.1)+nv (B.take q.1)
theorem EL {A B:List UInt16}{k:Nat}{L:List UInt16}{c:Nat}(h:RPlus A B (k,L,c))(hk:k<A.length\/k<B.length\/0<c) :
  RPlus A B (k+1,L++[UInt16.ofNat (fW A k+fW B k+c)],(fW A k+fW B k+c)/65536)/\k<A.length+B.length+1:=by
 obtain⟨h1,h2,h3,h4⟩:=h;simp only at h1 h2 h3 h4;have hx:=iw A k;have hy:=iw B k;have hkk:k<A.length+B.length+1:=by
  rcases bG k (A.length+B.length+1) with g|g
  .exact g
  .exfalso;have hc:0<c:=J;have e1:=dJ A;have e2:=dJ B;rw[cV (l:=A) J,cV (l:=B) J]at h4;have p1:65536^A.length*65536<=65536^k:=by rw[<-cW];exact gh Y J
   have p2:65536^B.length*65536<=65536^k:=by rw[<-cW];exact gh Y J
   have p3:65536^k*1<=65536^k*c:=dw _ hc;omega
 refine⟨⟨by simp[h1],by simp only;omega,by simp only;omega,?_⟩,hkk⟩;simp only;rw[uS,yF A,yF B,h1,bY,cW];have e:(fW A k+fW B k+c)%65536+65536*((fW A k+fW B k+c)/65536)=fW A k+fW B k+c:=jG _ _;generalize (fW A k+fW B k+c)%65536=m,(fW A k+fW B k+c)/65536=d,65536^k=W at *
 have:W*(m+65536*d)=W*(fW A k+fW B k+c):=by rw[e]
 simp only[cq]at this;rw[cP];omega
theorem Ip {A B:List UInt16}{k:Nat}{L:List UInt16}{c:Nat}(h:RPlus A B (k,L,c))(hk:¬(k<A.length\/k<B.length\/0<c)):nv L=nv A+nv B:=by
 obtain⟨h1,h2,h3,h4⟩:=h;simp only at h1 h2 h3 h4;rw[cV (l:=A) J,cV (l:=B) J,show c=0 by omega]at h4;omega
structure RMin (A B:List UInt16) (q:Nat × List UInt16 × Nat):Prop where
 l:q.2.1.length=q.1
 c:q.2.2<=1
 k:q.1<=A.length
 v:nv q.2.1+nv (B.take q.1)=nv (A.take q.1)+65536^q.1*q.2.2
def I6 (x y c:Nat):Nat:=if x<y+c then x+65536-y-c else x-y-c
def NN (x y c:Nat):Nat:=if x<y+c then 1 else 0
theorem Pb {x y c:Nat}(hx:x<65536)(hy:y<65536)(hc:c<=1):I6 x y c+y+c=x+65536*NN x y c/\I6 x y c<65536/\NN x y c<=1:=by
 unfold I6 NN;split<;>omega
theorem Il {A B:List UInt16}{k:Nat}{L:List UInt16}{c:Nat}(h:RMin A B (k,L,c))(hk:k<A.length) :
  RMin A B (k+1,L++[UInt16.ofNat (I6 (fW A k) (fW B k) c)],NN (fW A k) (fW B k) c):=by
 obtain⟨h1,h2,h3,h4⟩:=h;simp only at h1 h2 h3 h4;obtain⟨e,e2,e3⟩:=Pb (iw A k) (iw B k) h2;refine⟨by simp[h1],e3,hk,?_⟩;simp only;rw[uS,yF A,yF B,h1,bY,d_ e2,cW];generalize I6 (fW A k) (fW B k) c=m,NN (fW A k) (fW B k) c=d,65536^k=W at *
 have:W*(m+fW B k+c)=W*(fW A k+65536*d):=by rw[e]
 simp only[cq]at this;rw[cP];omega
theorem Lj {A B L:List UInt16}{c:Nat}(h:RMin A B (A.length,L,c))(hle:nv B<=nv A):nv L=nv A-nv B:=by
 obtain⟨h1,h2,h3,h4⟩:=h;simp only at h1 h2 h3 h4;rw[bb]at h4;have e1:=dJ L;rw[h1]at e1;have e2:=Eo B A.length;have e3:nv (B.take A.length)=nv B/\c=0:=by
  have e4:65536^A.length≠0:=Nat.ne_of_gt (qi _);have hc:c=0:=by
   rcases fY c with g|g
   .exact g
   .have:c=1:=J;subst this;have:=jx B A.length;omega
  refine⟨?_,hc⟩;subst hc;rcases bG A.length B.length with g|g
  .have e5:=fv B A.length J;have e6:=dJ A;rcases fY (nv (B.drop A.length)) with g2|g2
   .rw[g2]at e5;omega
   .have:65536^A.length*1<=65536^A.length*nv (B.drop A.length):=dw _ g2;omega
  .rw[cV g]
 rw[e3.1,e3.2]at h4;omega
structure RTimO (A B:List UInt16) (q:Nat × List UInt16):Prop where
 i:q.1<=A.length
 l:q.2.length=A.length+B.length+1
 v:nv q.2=nv (A.take q.1)*nv B
structure RTimI (A B:List UInt16) (i:Nat) (q:Nat × List UInt16 × Nat):Prop where
 k:q.1<=B.length+1
 l:q.2.1.length=A.length+B.length+1
 c:q.2.2<65536
 v:nv q.2.1+65536^(i+q.1)*q.2.2=nv (A.take i)*nv B+65536^i*(fW A i*nv (B.take q.1))
theorem EN {A B:List UInt16}{i:Nat}{R:List UInt16}(h:RTimO A B (i,R)):RTimI A B i (0,R,0):=⟨aP _,h.l,Ay _,by
 have:=h.v;simp only at this ⊢
 rw[eu,nv];omega⟩
theorem QB {A B:List UInt16}{i k:Nat}{R:List UInt16}{c:Nat}(h:RTimI A B i (k,R,c))(hk:k<B.length\/0<c):k<=B.length:=by
 rcases hk with hk|hk
 .omega
 .obtain⟨h1,h2,h3,h4⟩:=h;simp only at h1 h2 h3 h4;rcases bG B.length k with g|g
  .exfalso;rw[cV (l:=B) J]at h4;have e1:=jx A i;have e2:=iw A i;have e3:=dJ B;have e4:nv (A.take i)*nv B+65536^i*(fW A i*nv B)=(nv (A.take i)+65536^i*fW A i)*nv B:=by rw[cb,cP]
   have e5:nv (A.take i)+65536^i*fW A i<65536^(i+1):=by
    have:65536^i*fW A i<=65536^i*65535:=dw _ J;rw[cW];omega
   have e6:(nv (A.take i)+65536^i*fW A i)*nv B<65536^(i+1+B.length):=jX e5 e3;have e7:65536^(i+1+B.length)<=65536^(i+k):=gh Y J;have e8:65536^(i+k)*1<=65536^(i+k)*c:=dw _ hk;omega
  .exact g
theorem Iw {A B:List UInt16}{i k:Nat}{R:List UInt16}{c:Nat}{r:UInt16}(h:RTimI A B i (k,R,c))(hkB:k<=B.length)(hr:R[i+k]? = some r) :
  RTimI A B i (k+1,R.set (i+k) (UInt16.ofNat (r.toNat+fW A i*fW B k+c)),(r.toNat+fW A i*fW B k+c)/65536):=by
 obtain⟨h1,h2,h3,h4⟩:=h;simp only at h1 h2 h3 h4;have hx:=iw A i;have hyl:=iw B k;have hrl:=cg r;have hm:=Cs hx hyl;refine⟨by simp only;omega,by simp[h2],by simp only;omega,?_⟩;simp only;have hs:=KB hr (UInt16.ofNat (r.toNat+fW A i*fW B k+c));rw[bY]at hs;rw[yF B,show i+(k+1)=(i+k)+1 by omega,cW];have e:=jG (r.toNat+fW A i*fW B k+c) 65536;generalize (r.toNat+fW A i*fW B k+c)%65536=m,(r.toNat+fW A i*fW B k+c)/65536=d at *
 have e2:65536^i*(fW A i*(nv (B.take k)+65536^k*fW B k))=65536^i*(fW A i*nv (B.take k))+65536^(i+k)*(fW A i*fW B k):=by
  rw[cq,cq,iY];congr 1;simp only[cP,mn,c_]
 rw[e2];generalize 65536^(i+k)=W at *
 have e3:W*(m+65536*d)=W*(r.toNat+fW A i*fW B k+c):=by rw[e]
 simp only[cq]at e3;rw[cP];omega
theorem Iv {A B:List UInt16}{i k:Nat}{R:List UInt16}{c:Nat}(h:RTimI A B i (k,R,c))(hi:i<A.length)(hk:¬(k<B.length\/0<c)):RTimO A B (i+1,R):=by
 obtain⟨h1,h2,h3,h4⟩:=h;simp only at h1 h2 h3 h4;rw[cV (l:=B) J,show c=0 by omega]at h4;refine⟨hi,h2,?_⟩;simp only;rw[yF A,cb,cP];omega
structure ROvr (A B:List UInt16) (q:Nat × List UInt16 × Nat):Prop where
 i:q.1<=A.length
 l:q.2.1.length=A.length
 u:nv (q.2.1.drop q.1)=nv (A.drop q.1)/nv B
 r:q.2.2=nv (A.drop q.1)%nv B
theorem EI {A B:List UInt16}:ROvr A B (A.length,List.replicate A.length 0,0) :=
 ⟨a_,ao,by simp[nv],by simp[nv]⟩
theorem Io {A B:List UInt16}{i:Nat}{Q:List UInt16}{r:Nat}{x:UInt16}(hb:0<nv B)(h:ROvr A B (i+1,Q,r))(hx:A[i]? = some x) :
  (x.toNat+65536*r)/nv B<65536/\ROvr A B (i,Q.set i (UInt16.ofNat ((x.toNat+65536*r)/nv B)),(x.toNat+65536*r)%nv B):=by
 obtain⟨h1,h2,h3,h4⟩:=h;simp only at h1 h2 h3 h4;have hxl:=cg x;have hrb:r<nv B:=by rw[h4];exact fL _ hb
 have hq:(x.toNat+65536*r)/nv B<65536:=by
  refine mg ?_;have:65536*(r+1)<=65536*nv B:=dw _ hrb;rw[c_ (nv B)];omega
 refine⟨hq,by simp only;omega,by simp[h2],?_,?_⟩
 .simp only;have hget:(Q.set i (UInt16.ofNat ((x.toNat+65536*r)/nv B)))[i]? = some (UInt16.ofNat ((x.toNat+65536*r)/nv B)):=fq J;rw[i8 hget,i8 hx,bY,d_ hq];have e2:(Q.set i (UInt16.ofNat ((x.toNat+65536*r)/nv B))).drop (i+1)=Q.drop (i+1):=by
   apply i4;intro j;rw[dx,dx,eo J]
  rw[e2,h3];generalize nv (A.drop (i+1))=D0 at *
  have e3:=jG D0 (nv B);rw[<-h4]at e3;have e4:x.toNat+65536*D0=(x.toNat+65536*r)+nv B*(65536*(D0/nv B)):=by
   have e5:nv B*(65536*(D0/nv B))=65536*(nv B*(D0/nv B)):=by rw[mn]
   rw[e5];omega
  rw[e4,ux _ _ hb]
 .simp only;rw[i8 hx];generalize nv (A.drop (i+1))=D0 at *
  have e3:=jG D0 (nv B);rw[<-h4]at e3;have e4:x.toNat+65536*D0=(x.toNat+65536*r)+nv B*(65536*(D0/nv B)):=by
   have e5:nv B*(65536*(D0/nv B))=65536*(nv B*(D0/nv B)):=by rw[mn]
   rw[e5];omega
  rw[e4,z8]
theorem Ln {A B Q:List UInt16}{r:Nat}(h:ROvr A B (0,Q,r)):nv Q=nv A/nv B/\r=nv A%nv B:=by
 have h1:=h.u;have h2:=h.r;simp only[ep]at h1 h2;exact⟨h1,h2⟩
def eD (x:UInt16):List PV:=[I x.toNat]
theorem lR (a:List UInt16)(i:Nat)(ha:a.length<=1000000000)(hi:i<=4000000000):aO 221 [.sl (a.map eD),I i] (I (fW a i)):=by
 have hal:(a.map eD).length=a.length:=ao;by_cases hlt:i<a.length
 .have hx:=dY (l:=a) (i:=i) hlt;rw[fW];generalize a.getD i 0=x at *
  refine ax Proofs.Tryz.func221 ?_;refine D ?_ ?_<;>intro h
  .clear h;refine aQ hx ?_;exact co
  .have:=aE h;omega
 .rw[Jw J];refine ax Proofs.Tryz.func221 ?_;refine D ?_ ?_<;>intro h
  .have:=aB h;omega
  .exact co
theorem kt (l:List UInt16)(hl:l.length<=1000000000):aO 220 [.sl (l.map eD)] (.sl ((bN l).map eD)):=by
 have hml:(l.map eD).length=l.length:=ao;refine ax Proofs.Tryz.func220 ?_;refine H ?_;refine ah (fun k=>k<=l.length/\nv (l.take k)=nv l) (fun k=>[(0,.sl (l.map eD)),(3,I (k:Nat))]) (fun _=>[]) (fun k=>k) l.length ⟨a_,by rw[bb]⟩ ⟨O,by rw[<-hml];rfl,trivial⟩ ?_;rintro k s ⟨hk,hv⟩;have hkl:(l.take k).length=k:=by rw[bw];omega
 have fin:(∀j,k=j+1->∀x,l[j]? = some x->x.toNat≠0)->l.take k=bN l:=by
  intro h0;rw[bN,<-hv];refine(kC fun y hy=>?_).symm;rw[uk,hkl]at hy;have hk0:0<k:=by
   rcases fY k with h|h
   .subst h;rw[eu]at hy;cases hy
   .exact h
  rw[cz,if_pos J]at hy;exact h0 (k-1) J y hy
 have ending:(l.take k).map eD=(l.map eD).take k:=by rw[kZ]
 refine eW ?_ ?_<;>intro h
 .have hk0:0<k:=by have:=aB h;omega
  clear h;obtain⟨j,rfl⟩:∃j,k=j+1:=⟨k-1,J⟩;obtain⟨x,hx⟩:=aC (show j<l.length by omega);have hw1:IntKind.i64.wrap (((j+1:Nat):Int)-1)=(j:Nat):=by rw[wrap_i64 J J];omega
  refine H ?_;rw[hw1];refine tK O O O O O O O hx O ?_;refine D ?_ ?_<;>intro h
  .have hx0:x.toNat=0:=by have:=aB h;omega
   clear h;refine H ?_;refine⟨j,⟨J,?_⟩,J,O,congrArg I hw1,trivial⟩;rw[<-hv,gi hx,hx0];omega
  .have hx0:x.toNat≠0:=by have:=aE h;omega
   clear h;have ht:=fin fun j' hj' x' hx'=>by
    obtain rfl:j=j':=J;rw[hx]at hx';cases hx';exact hx0
   rw[ht]at ending;have htl:((bN l).map eD).length=j+1:=by rw[aR,<-ht,hkl]
   refine H ?_;refine ay (aY 0 O O O O O O O O O O O aH O ?_);refine H ?_;refine cf O O (sS (n:=((j+1:Nat):Int)) O O O O O J J (fun _=>rfl)) ?_;rw[br,kZ,<-ending];refine H ?_;refine ay (bJ 1 O O O O O O O O O O O aH (by intro row hr;obtain⟨p,_,rfl⟩:=bX.1 hr;rfl) O O (by simp;have:=dr l;omega) (by simp;have:=dr l;omega) ?_);exact bW
 .have hk0:k=0:=by have:=aE h;omega
  subst hk0;clear h;have ht:=fin fun j' hj'=>by omega
  rw[ht]at ending;refine H ?_;refine ay (aY 0 O O O O O O O O O O O aH O ?_);refine H ?_;refine cf O O (sS (n:=((0:Nat):Int)) O O O O O J J (fun _=>rfl)) ?_;rw[br,kZ,<-ending];refine H ?_;refine ay (bJ 1 O O O O O O O O O O O aH (by intro row hr;obtain⟨p,_,rfl⟩:=bX.1 hr;rfl) O O (by simp;have:=dr l;omega) (by simp;have:=dr l;omega) ?_);exact bW
theorem gC {α:Type}{l:List α}{k:Nat}{x:α}(h:l[k]? = some x):l.take (k+1)=l.take k++[x]:=by
 rw[rq,h];rfl
theorem jS (l:List UInt16)(hl:l.length<=900000000):aO 152 [.sl (l.map eU)] (.sl ((bN l).map eD)):=by
 have hml:(l.map eU).length=l.length:=ao;have ht:=kt l J;refine ax Proofs.Tryz.func152 ?_
 ((repeat (first|refine bH ?_ | refine dT ?_ | refine dF ?_ | refine dy ?_));refine bZ ?_)
 refine lZ O trivial ?_
 ((repeat (first|refine bH ?_ | refine dT ?_ | refine dF ?_ | refine dy ?_));refine bZ ?_)
 (first|refine ay (kG 3 1 0 O O ?_)|refine ay (kF 3 1 0 O O ?_))
 refine H ?_;refine ah (fun k=>k<=l.length) (fun k=>[(0,.sl (l.map eU)),(3,.als 3 (k+1) 0 ((l.take k).map eD).length),(4,I (k:Nat))]) (fun k=>[(3,k+1,⟨3,1,(l.take k).map eD,0⟩)]) (fun k=>l.length-k) 0 (aP _) ⟨O,O,O,O,trivial⟩ ?_;intro k s hk;refine D ?_ ?_<;>intro h
 .have hlt:k<l.length:=by have:=aB h;omega
  clear h;obtain⟨x,hx⟩:=aC hlt;have hxl:=cg x;have hkl:(l.take k).length=k:=by rw[bw];omega
  have hw:=fg k;have hcx:IntKind.i64.wrap (x.toNat:Int)=(x.toNat:Int):=wrap_i64 J J;refine aQ hx ?_;refine H ?_;rw[hcx];refine ay (aY 0 O O O O O O O O O O O aH O ?_);refine H ?_;refine ay (bJ 0 O O O O O O O O O O O aH (by intro row hr;first|(simp at hr;subst hr;rfl)|simp at hr) O O aV aV ?_);refine H ?_;refine⟨k+1,hlt,J,O,?_,congrArg I hw,?_,trivial⟩
  .rw[gC hx,bc];rfl
  .rw[gC hx,bc];rfl
 .have hge:k=l.length:=by have:=aE h;omega
  subst hge;clear h;rw[bb]
  (refine cN 6 ?_;refine aU 1 ?_)
  refine iH O ?_;refine bH ?_;refine bC O (gA (Ghost.takeF (enc:=eD) (t:=19) (l) O O (O) O (fun _=>rfl)) ?_)
  (refine pe (gp O (ht) O ?_ O) ?_;.repeat' constructor)
  refine aW ?_;refine H ?_;exact lB O O O trivial O
theorem rK (a b:List UInt16)(ha:a.length<=1000000000)(hb:b.length<=1000000000):aO 158 [.sl (a.map eD),.sl (b.map eD)] (I (o0 a b)):=by
 have hal:(a.map eD).length=a.length:=ao;have hbl:(b.map eD).length=b.length:=ao;by_cases he:a.length=b.length
 .rw[o0,if_pos he];have hw0:IntKind.i64.wrap (((((a.map eD).length:Nat):Int))-1)=(a.length:Int)-1:=by rw[hal,wrap_i64 J J]
  refine ax Proofs.Tryz.func158 ?_;refine D ?_ ?_<;>intro h
  .simp at h;omega
  clear h;refine H ?_;rw[hw0];refine ah (fun k:Nat=>k<=a.length/\qO a b k=qO a b a.length) (fun k=>[(0,.sl (a.map eD)),(1,.sl (b.map eD)),(5,I ((k:Int)-1))]) (fun _=>[]) (fun k=>k) a.length ⟨a_,O⟩ ⟨O,O,O,trivial⟩ ?_;rintro k s ⟨hk,hc⟩;rw[<-hc];refine D ?_ ?_<;>intro h
  .have hk0:0<k:=by have:=aB h;omega
   clear h;obtain⟨j,rfl⟩:∃j,k=j+1:=⟨k-1,J⟩;have e1:(((j+1:Nat):Int)-1)=(j:Nat):=J;rw[e1];have hx:=dY (l:=a) (i:=j) J;have hy:=dY (l:=b) (i:=j) J;have hc1:qO a b (j+1)=if (a.getD j 0).toNat=(b.getD j 0).toNat then qO a b j else((a.getD j 0).toNat:Int)-(b.getD j 0).toNat:=O
   have hxl:=cg (a.getD j 0);have hyl:=cg (b.getD j 0);generalize a.getD j 0=x,b.getD j 0=y at *
   refine cO 9 [23,24,25,26,27,28,29,30,31] ?_;refine aQ hx ?_;refine aQ hy ?_;refine D ?_ ?_<;>intro h
   .have hne:¬x.toNat=y.toNat:=by simp at h;intro he;apply h;omega
    clear h;rw[if_neg hne]at hc1;rw[hc1];refine cO 10 [32,33,34,35,36,37,38,39,40,4] ?_;refine aQ hx ?_;refine aQ hy ?_;refine H ?_;rw[wrap_i64 (n:=(x.toNat:Int)-(y.toNat:Int)) J J];exact co
   .have hne:x.toNat=y.toNat:=by simp at h;omega
    clear h;rw[if_pos hne]at hc1;refine H ?_;refine⟨j,⟨J,by rw[<-hc1,hc]⟩,J,O,O,?_,trivial⟩;exact congrArg I (wrap_i64 J J)
  .have hk0:k=0:=by have:=aE h;omega
   subst hk0;clear h;exact co
 .rw[o0,if_neg he];refine ax Proofs.Tryz.func158 ?_;refine D ?_ ?_<;>intro h
  .refine H ?_;rw[hal,hbl,wrap_i64 J J];exact pm O O O
  .simp at h;omega
theorem uZ (a:Nat):Int.tmod (a:Int) 65536=((UInt16.ofNat a).toNat:Int):=by
 rw[bY,Int.tmod_eq_emod_of_nonneg J];omega
theorem uX (a:Nat):Int.tdiv (a:Int) 65536=((a/65536:Nat):Int):=by
 rw[uj J];omega
theorem ol (k:Nat)(l:List UInt16)(a:UInt16):PV.als k (l.length+1+1) 0 (l.map eD++[eD a]).length=PV.als k ((l++[a]).length+1) 0 ((l++[a]).map eD).length:=by simp
theorem lP (T sz kd:Nat)(l:List UInt16)(a:UInt16):(l.length+1+1,some (Cont.mk T sz (l.map eD++[eD a]) kd))=((l++[a]).length+1,some (Cont.mk T sz ((l++[a]).map eD) kd)):=by simp
theorem Iq (a b:List UInt16)(ha:a.length<=400000000)(hb:b.length<=400000000):aO 157 [.sl (a.map eD),.sl (b.map eD)] (.sl ((aM (nv a+nv b)).map eD)):=by
 have hal:(a.map eD).length=a.length:=ao;have hbl:(b.map eD).length=b.length:=ao;refine ax Proofs.Tryz.func157 ?_
 ((repeat (first|refine bH ?_ | refine dT ?_ | refine dF ?_ | refine dy ?_));refine bZ ?_)
 refine lZ O trivial ?_
 ((repeat (first|refine bH ?_ | refine dT ?_ | refine dF ?_ | refine dy ?_));refine bZ ?_)
 (first|refine ay (kG 3 1 0 O O ?_)|refine ay (kF 3 1 0 O O ?_))
 refine H ?_;refine ah (RPlus a b) (fun q=>[(0,.sl (a.map eD)),(1,.sl (b.map eD)),(5,.als 5 (q.2.1.length+1) 0 (q.2.1.map eD).length),(6,I (q.2.2:Nat)),(7,I (q.1:Nat))]) (fun q=>[(5,q.2.1.length+1,⟨3,1,q.2.1.map eD,0⟩)]) (fun q=>a.length+b.length+1-q.1) (0,[],0)
  ⟨O,Y,by simp only;omega,by simp[nv]⟩ ⟨O,O,O,O,O,O,trivial⟩ ?_
 rintro⟨k,L,c⟩ s hI;have hc:=hI.c;have hLl:=hI.l;have hkk:=hI.k;simp only at hc hLl hkk;dsimp only;have hstep:=fun h=>EL hI h;have hend:=fun h=>Ip hI h;have e1:=lR a k J J;have e2:=lR b k J J;have hxl:=iw a k;have hyl:=iw b k;have hw:=fg k;have s1:IntKind.i64.wrap ((fW a k:Int)+(fW b k:Int))=((fW a k+fW b k:Nat):Int):=by rw[wrap_i64 J J];omega
 have s2:IntKind.i64.wrap (((fW a k+fW b k:Nat):Int)+(c:Int))=((fW a k+fW b k+c:Nat):Int):=by rw[wrap_i64 J J];omega
 generalize fW a k=x,fW b k=y at *
 have hr:Int.tmod ((x+y+c:Nat):Int) 65536=((UInt16.ofNat (x+y+c)).toNat:Int):=uZ _;have hq:IntKind.i64.wrap (Int.tdiv ((x+y+c:Nat):Int) 65536)=(((x+y+c)/65536:Nat):Int):=by rw[uX,wrap_i64]<;>omega
 refine eW ?_ ?_<;>intro h
 .have hyes:k<a.length\/k<b.length\/0<c := .inl (by have:=aB h;rw[hal]at this;omega);clear h;have hst:=(hstep hyes).1;have hlt:=(hstep hyes).2;refine aj e1 ?_;refine aj e2 ?_;refine H ?_;rw[s1];refine H ?_;rw[s2];refine H ?_;refine cf O O (QOp.v O (show ¬(65536:Int)=0 by decide)) ?_;rw[hr];refine ay (aY 0 O O O O O O O O O O O aH O ?_);refine H ?_;refine ay (bJ 0 O O O O O O O O O O O aH (by intro row hr;first|(simp at hr;subst hr;rfl)|simp at hr) O O aV aV ?_);refine H ?_;refine cf O O (QOp.v O (show ¬(65536:Int)=0 by decide)) ?_;rw[hq];refine H ?_;refine⟨(k+1,L++[UInt16.ofNat (x+y+c)],(x+y+c)/65536),hst,by simp only;omega,O,O,?_,O,congrArg I hw,?_,trivial⟩
  .exact ol 5 L (UInt16.ofNat (x+y+c))
  .exact lP 3 1 0 L (UInt16.ofNat (x+y+c))
 .have h1:¬k<a.length:=by have:=aE h;rw[hal]at this;omega
  clear h;refine eW ?_ ?_<;>intro h
  .have hyes:k<a.length\/k<b.length\/0<c := .inr (.inl (by have:=aB h;rw[hbl]at this;omega));clear h;have hst:=(hstep hyes).1;have hlt:=(hstep hyes).2;refine aj e1 ?_;refine aj e2 ?_;refine H ?_;rw[s1];refine H ?_;rw[s2];refine H ?_;refine cf O O (QOp.v O (show ¬(65536:Int)=0 by decide)) ?_;rw[hr];refine ay (aY 0 O O O O O O O O O O O aH O ?_);refine H ?_;refine ay (bJ 0 O O O O O O O O O O O aH (by intro row hr;first|(simp at hr;subst hr;rfl)|simp at hr) O O aV aV ?_);refine H ?_;refine cf O O (QOp.v O (show ¬(65536:Int)=0 by decide)) ?_;rw[hq];refine H ?_;refine⟨(k+1,L++[UInt16.ofNat (x+y+c)],(x+y+c)/65536),hst,by simp only;omega,O,O,?_,O,congrArg I hw,?_,trivial⟩
   .exact ol 5 L (UInt16.ofNat (x+y+c))
   .exact lP 3 1 0 L (UInt16.ofNat (x+y+c))
  .have h2:¬k<b.length:=by have:=aE h;rw[hbl]at this;omega
   clear h;refine D ?_ ?_<;>intro h
   .have hyes:k<a.length\/k<b.length\/0<c := .inr (.inr (by have:=aB h;omega));clear h;have hst:=(hstep hyes).1;have hlt:=(hstep hyes).2;refine aj e1 ?_;refine aj e2 ?_;refine H ?_;rw[s1];refine H ?_;rw[s2];refine H ?_;refine cf O O (QOp.v O (show ¬(65536:Int)=0 by decide)) ?_;rw[hr];refine ay (aY 0 O O O O O O O O O O O aH O ?_);refine H ?_;refine ay (bJ 0 O O O O O O O O O O O aH (by intro row hr;first|(simp at hr;subst hr;rfl)|simp at hr) O O aV aV ?_);refine H ?_;refine cf O O (QOp.v O (show ¬(65536:Int)=0 by decide)) ?_;rw[hq];refine H ?_;refine⟨(k+1,L++[UInt16.ofNat (x+y+c)],(x+y+c)/65536),hst,by simp only;omega,O,O,?_,O,congrArg I hw,?_,trivial⟩
    .exact ol 5 L (UInt16.ofNat (x+y+c))
    .exact lP 3 1 0 L (UInt16.ofNat (x+y+c))
   .have h3:¬0<c:=by have:=aE h;omega
    clear h;have hfin:=hend J;have ht:=kt L J;rw[bN,hfin]at ht
    (refine cN 9 ?_;refine aU 1 ?_)
    refine iH O ?_;refine bH ?_;refine bC O (gA (Ghost.takeF (enc:=eD) (t:=41) (L) O O (O) O (fun _=>rfl)) ?_)
    (refine pe (gp O (ht) O ?_ O) ?_;.repeat' constructor)
    refine aW ?_;refine H ?_;exact lB O O O trivial O
theorem qn (a b:List UInt16)(ha:a.length<=900000000)(hb:b.length<=900000000)(hle:nv b<=nv a):aO 159 [.sl (a.map eD),.sl (b.map eD)] (.sl ((aM (nv a-nv b)).map eD)):=by
 have hal:(a.map eD).length=a.length:=ao;refine ax Proofs.Tryz.func159 ?_
 ((repeat (first|refine bH ?_ | refine dT ?_ | refine dF ?_ | refine dy ?_));refine bZ ?_)
 refine lZ O trivial ?_
 ((repeat (first|refine bH ?_ | refine dT ?_ | refine dF ?_ | refine dy ?_));refine bZ ?_)
 (first|refine ay (kG 3 1 0 O O ?_)|refine ay (kF 3 1 0 O O ?_))
 refine H ?_;refine ah (RMin a b) (fun q=>[(0,.sl (a.map eD)),(1,.sl (b.map eD)),(5,.als 5 (q.2.1.length+1) 0 (q.2.1.map eD).length),(6,I (q.2.2:Nat)),(7,I (q.1:Nat))]) (fun q=>[(5,q.2.1.length+1,⟨3,1,q.2.1.map eD,0⟩)]) (fun q=>a.length-q.1) (0,[],0)
  ⟨O,Y,aP _,by simp[nv]⟩ ⟨O,O,O,O,O,O,trivial⟩ ?_
 rintro⟨k,L,c⟩ s hI;have hc:=hI.c;have hLl:=hI.l;have hkk:=hI.k;simp only at hc hLl hkk;dsimp only;refine D ?_ ?_<;>intro h
 .have hlt:k<a.length:=by have:=aB h;omega
  clear h;have hst:=Il hI hlt;have hx:=dY (l:=a) (i:=k) hlt;have e2:=lR b k J J;have hxl:=iw a k;have hyl:=iw b k;have hw:=fg k;have hX:(a.getD k 0).toNat=fW a k:=O;generalize fW b k=y,fW a k=X,a.getD k 0=x at *
  subst hX;have s1:IntKind.i64.wrap ((x.toNat:Int)-(y:Int))=(x.toNat:Int)-(y:Int):=by rw[wrap_i64 J J]
  have s2:IntKind.i64.wrap ((x.toNat:Int)-(y:Int)-(c:Int))=(x.toNat:Int)-(y:Int)-(c:Int):=by rw[wrap_i64 J J]
  have hlen:(L.map eD).length=L.length:=ao;have hsd:=Pb hxl hyl hc;have hrow:∀m:Nat,m<65536->eD (UInt16.ofNat m)=[I (m:Nat)]:=fun m hm=>by rw[eD,bY,d_ hm]
  by_cases hn:x.toNat<y+c
  .have hd:(x.toNat:Int)-(y:Int)-(c:Int)+65536=((I6 x.toNat y c:Nat):Int):=by rw[I6,if_pos hn];omega
   have s3:IntKind.i64.wrap ((x.toNat:Int)-(y:Int)-(c:Int)+65536)=((I6 x.toNat y c:Nat):Int):=by rw[hd,wrap_i64 J J]
   have hcc:NN x.toNat y c=1:=by rw[NN,if_pos hn]
   rw[hcc]at hst;have hrw:=hrow _ hsd.2.1;generalize I6 x.toNat y c=D0 at *
   refine cO 11 [15,16,17,18,19,20,21,22,23,24,8] ?_;refine aQ hx ?_;refine aj e2 ?_;refine H ?_;rw[s1];refine H ?_;rw[s2];refine D ?_ ?_<;>intro h
   .clear h;refine H ?_;rw[s3];refine H ?_;refine ay (aY 0 O O O O O O O O O O O aH O ?_);refine H ?_;refine ay (bJ 0 O O O O O O O O O O O aH (by intro row hr;first|(simp at hr;subst hr;rfl)|simp at hr) O O aV aV ?_);refine H ?_;refine⟨(k+1,L++[UInt16.ofNat D0],1),hst,by simp only;omega,O,O,?_,O,congrArg I hw,?_,trivial⟩
    .have:=ol 5 L (UInt16.ofNat D0);rw[hrw]at this;exact this
    .have:=lP 3 1 0 L (UInt16.ofNat D0);rw[hrw]at this;exact this
   .have:=aE h;omega
  .have hd:(x.toNat:Int)-(y:Int)-(c:Int)=((I6 x.toNat y c:Nat):Int):=by rw[I6,if_neg hn];omega
   rw[hd]at s2;have hcc:NN x.toNat y c=0:=by rw[NN,if_neg hn]
   rw[hcc]at hst;have hrw:=hrow _ hsd.2.1;generalize I6 x.toNat y c=D0 at *
   refine cO 11 [15,16,17,18,19,20,21,22,23,24,8] ?_;refine aQ hx ?_;refine aj e2 ?_;refine H ?_;rw[s1];refine H ?_;rw[hd,s2];refine H ?_;refine ay (aY 0 O O O O O O O O O O O aH O ?_);refine H ?_;refine ay (bJ 0 O O O O O O O O O O O aH (by intro row hr;first|(simp at hr;subst hr;rfl)|simp at hr) O O aV aV ?_);refine H ?_;refine⟨(k+1,L++[UInt16.ofNat D0],0),hst,by simp only;omega,O,O,?_,O,congrArg I hw,?_,trivial⟩
   .have:=ol 5 L (UInt16.ofNat D0);rw[hrw]at this;exact this
   .have:=lP 3 1 0 L (UInt16.ofNat D0);rw[hrw]at this;exact this
 .have hge:k=a.length:=by have:=aE h;omega
  subst hge;clear h;have hfin:=Lj hI hle;have ht:=kt L J;rw[bN,hfin]at ht
  (refine cN 12 ?_;refine aU 1 ?_)
  refine iH O ?_;refine bH ?_;refine bC O (gA (Ghost.takeF (enc:=eD) (t:=33) (L) O O (O) O (fun _=>rfl)) ?_)
  (refine pe (gp O (ht) O ?_ O) ?_;.repeat' constructor)
  refine aW ?_;refine H ?_;exact lB O O O trivial O
theorem Lc (n:Nat):List.replicate n [PV.int .i64 0]=(List.replicate n (0:UInt16)).map eD:=by rw[List.map_replicate];rfl
theorem BB (k g i:Nat)(R:List UInt16)(y:UInt16):PV.als k g 0 (((R.map eD).set i (eD y))).length=PV.als k g 0 ((R.set i y).map eD).length:=by simp
theorem yo (g T sz kd i:Nat)(R:List UInt16)(y:UInt16):(g,some (Cont.mk T sz ((R.map eD).set i (eD y)) kd))=(g,some (Cont.mk T sz ((R.set i y).map eD) kd)):=by rw[f8]
theorem qr (a b:List UInt16)(ha:a.length<=400000000)(hb:b.length<=400000000):aO 160 [.sl (a.map eD),.sl (b.map eD)] (.sl ((aM (nv a*nv b)).map eD)):=by
 have hal:(a.map eD).length=a.length:=ao;have hbl:(b.map eD).length=b.length:=ao;have hw0:IntKind.i64.wrap ((((a.map eD).length:Nat):Int)+(((b.map eD).length:Nat):Int))=((a.length+b.length:Nat):Int):=by rw[hal,hbl,wrap_i64 J J];omega
 have hw1:IntKind.i64.wrap (((a.length+b.length:Nat):Int)+1)=((a.length+b.length+1:Nat):Int):=by rw[wrap_i64 J J];omega
 refine ax Proofs.Tryz.func160 ?_;refine H ?_;rw[hw0];refine H ?_;rw[hw1];refine ay (mO O O O O O O O O J (by show(8:Int)*_<=_;omega) J ?_);rw[br,Lc];refine H ?_;refine ah (RTimO a b) (fun q=>[(0,.sl (a.map eD)),(1,.sl (b.map eD)),(5,.als 16 1 0 (q.2.map eD).length),(6,I q.1)])
  (fun q=>[(16,1,⟨3,1,q.2.map eD,0⟩)]) (fun q=>a.length-q.1) (0,List.replicate (a.length+b.length+1) 0) ⟨aP _,ao,by simp[nv];exact AM _⟩ ⟨O,O,O,O,O,trivial⟩ ?_
 rintro⟨i,R⟩ s1 hO;have hi:=hO.i;have hRl:=hO.l;simp only at hi hRl;dsimp only;refine D ?_ ?_<;>intro h
 .have hlt:i<a.length:=by have:=aB h;omega
  clear h;refine H ?_;refine ah (RTimI a b i) (fun q=>[(0,.sl (a.map eD)),(1,.sl (b.map eD)),(5,.als 16 1 0 (q.2.1.map eD).length),(6,I i),(7,I (q.2.2:Nat)),(8,I (q.1:Nat))])
   (fun q=>[(16,1,⟨3,1,q.2.1.map eD,0⟩)]) (fun q=>b.length+1-q.1) (0,R,0) (EN hO) ⟨O,O,O,O,O,O,O,trivial⟩ ?_
  rintro⟨k,Q,c⟩ s2 hI;have hk:=hI.k;have hc:=hI.c;have hQl:=hI.l;simp only at hk hc hQl;dsimp only;have hQm:(Q.map eD).length=Q.length:=ao;have body:∀_:k<b.length\/0<c,True:=fun _=>trivial;clear body;have hkB:=fun h=>QB hI h;have hstep:=fun h=>Iw (r:=Q.getD (i+k) 0) hI h;have hnext:=fun h=>Iv hI hlt h;refine eW ?_ ?_<;>intro h
  .have hyes:k<b.length\/0<c := .inl (by have:=aB h;omega);clear h;have hkb:=hkB hyes;have hr:=dY (l:=Q) (i:=i+k) J;have hst:=hstep hkb hr;have hx:=dY (l:=a) (i:=i) hlt;have hX:(a.getD i 0).toNat=fW a i:=O;have hxl:=iw a i;have hyl:=iw b k;have e2:=lR b k J J;have hm:=Cs hxl hyl;have hrl:=cg (Q.getD (i+k) 0);have hr2:(Q.map eD)[i+k]? = some (eD (Q.getD (i+k) 0)):=by rw[bD,hr];rfl
   have ei:IntKind.i64.wrap ((i:Int)+(k:Int))=((i+k:Nat):Int):=by rw[wrap_i64 J J];omega
   generalize Q.getD (i+k) 0=r,fW b k=y,fW a i=X,a.getD i 0=x at *
   subst hX;have s1:IntKind.i64.wrap ((x.toNat:Int)*(y:Int))=((x.toNat*y:Nat):Int):=by rw[<-jI,wrap_i64 J J]
   have s2:IntKind.i64.wrap ((r.toNat:Int)+((x.toNat*y:Nat):Int))=((r.toNat+x.toNat*y:Nat):Int):=by rw[wrap_i64 J J];omega
   have s3:IntKind.i64.wrap (((r.toNat+x.toNat*y:Nat):Int)+(c:Int))=((r.toNat+x.toNat*y+c:Nat):Int):=by rw[wrap_i64 J J];omega
   generalize x.toNat*y=P at *
   have hrm:Int.tmod ((r.toNat+P+c:Nat):Int) 65536=((UInt16.ofNat (r.toNat+P+c)).toNat:Int):=uZ _;have hq:IntKind.i64.wrap (Int.tdiv ((r.toNat+P+c:Nat):Int) 65536)=(((r.toNat+P+c)/65536:Nat):Int):=by rw[uX,wrap_i64]<;>omega
   generalize hsm:r.toNat+P+c=sm at *
   refine cO 18 [33,34,35,36,37,38,39,40,41,42,43,44,45,46,47,48,49,9] ?_;refine H ?_;rw[ei];refine cf O O (cQ O O O O O O O J (by rw[aR];omega)) ?_;rw[br,aX (i+k)];refine cf O O (dK O O O hr2 O) ?_;refine aQ hx ?_;refine aj e2 ?_;refine H ?_;rw[s1];refine H ?_;rw[s2];refine H ?_;rw[s3];refine H ?_;rw[ei];refine H ?_;refine cf O O (QOp.v O (show ¬(65536:Int)=0 by decide)) ?_;rw[hrm];refine H ?_;refine cf O O (cQ O O O O O O O J (by rw[aR];omega)) ?_;rw[br,aX (i+k)];refine ec (cK (kd':=0) O O O hr2 O O aH O O O O ?_);refine H ?_;refine cf O O (QOp.v O (show ¬(65536:Int)=0 by decide)) ?_;rw[hq];refine H ?_;refine⟨(k+1,_,_),hst,by simp only;omega,O,O,?_,O,O,dg J J,?_,trivial⟩
   .show PV.als 16 1 0 (Q.map eD).length=_;rw[<-BB 16 1 (i+k) Q (UInt16.ofNat sm),jH]
   .exact yo 1 3 1 0 (i+k) Q (UInt16.ofNat sm)
  .have h1:¬k<b.length:=by have:=aE h;omega
   clear h;refine D ?_ ?_<;>intro h
   .have hyes:k<b.length\/0<c := .inr (by have:=aB h;omega);clear h;have hkb:=hkB hyes;have hr:=dY (l:=Q) (i:=i+k) J;have hst:=hstep hkb hr;have hx:=dY (l:=a) (i:=i) hlt;have hX:(a.getD i 0).toNat=fW a i:=O;have hxl:=iw a i;have hyl:=iw b k;have e2:=lR b k J J;have hm:=Cs hxl hyl;have hrl:=cg (Q.getD (i+k) 0);have hr2:(Q.map eD)[i+k]? = some (eD (Q.getD (i+k) 0)):=by rw[bD,hr];rfl
    have ei:IntKind.i64.wrap ((i:Int)+(k:Int))=((i+k:Nat):Int):=by rw[wrap_i64 J J];omega
    generalize Q.getD (i+k) 0=r,fW b k=y,fW a i=X,a.getD i 0=x at *
    subst hX;have s1:IntKind.i64.wrap ((x.toNat:Int)*(y:Int))=((x.toNat*y:Nat):Int):=by rw[<-jI,wrap_i64 J J]
    have s2:IntKind.i64.wrap ((r.toNat:Int)+((x.toNat*y:Nat):Int))=((r.toNat+x.toNat*y:Nat):Int):=by rw[wrap_i64 J J];omega
    have s3:IntKind.i64.wrap (((r.toNat+x.toNat*y:Nat):Int)+(c:Int))=((r.toNat+x.toNat*y+c:Nat):Int):=by rw[wrap_i64 J J];omega
    generalize x.toNat*y=P at *
    have hrm:Int.tmod ((r.toNat+P+c:Nat):Int) 65536=((UInt16.ofNat (r.toNat+P+c)).toNat:Int):=uZ _;have hq:IntKind.i64.wrap (Int.tdiv ((r.toNat+P+c:Nat):Int) 65536)=(((r.toNat+P+c)/65536:Nat):Int):=by rw[uX,wrap_i64]<;>omega
    generalize hsm:r.toNat+P+c=sm at *
    refine cO 18 [33,34,35,36,37,38,39,40,41,42,43,44,45,46,47,48,49,9] ?_;refine H ?_;rw[ei];refine cf O O (cQ O O O O O O O J (by rw[aR];omega)) ?_;rw[br,aX (i+k)];refine cf O O (dK O O O hr2 O) ?_;refine aQ hx ?_;refine aj e2 ?_;refine H ?_;rw[s1];refine H ?_;rw[s2];refine H ?_;rw[s3];refine H ?_;rw[ei];refine H ?_;refine cf O O (QOp.v O (show ¬(65536:Int)=0 by decide)) ?_;rw[hrm];refine H ?_;refine cf O O (cQ O O O O O O O J (by rw[aR];omega)) ?_;rw[br,aX (i+k)];refine ec (cK (kd':=0) O O O hr2 O O aH O O O O ?_);refine H ?_;refine cf O O (QOp.v O (show ¬(65536:Int)=0 by decide)) ?_;rw[hq];refine H ?_;refine⟨(k+1,_,_),hst,by simp only;omega,O,O,?_,O,O,dg J J,?_,trivial⟩
    .show PV.als 16 1 0 (Q.map eD).length=_;rw[<-BB 16 1 (i+k) Q (UInt16.ofNat sm),jH]
    .exact yo 1 3 1 0 (i+k) Q (UInt16.ofNat sm)
   .have h2:¬0<c:=by have:=aE h;omega
    clear h;have hst:=hnext J;refine H ?_;refine⟨(i+1,Q),hst,by simp only;omega,O,O,O,dg J J,O,trivial⟩
 .have hge:i=a.length:=by have:=aE h;omega
  subst hge;clear h;have hv:=hO.v;simp only[bb]at hv;have ht:=kt R J;rw[bN,hv]at ht
  (refine cN 12 ?_;refine aU 1 ?_)
  refine iH O ?_;refine bH ?_;refine bC O (gA (Ghost.takeF (enc:=eD) (t:=59) (R) O O (O) O (fun _=>rfl)) ?_)
  (refine pe (gp O (ht) O ?_ O) ?_;.repeat' constructor)
  refine aW ?_;refine H ?_;exact lB O O O trivial O
theorem KH {m:Nat}(h:m<65536):nv [UInt16.ofNat m]=m:=by simp[nv];omega
theorem JF {m:Nat}(h:m<65536):eD (UInt16.ofNat m)=[I (m:Nat)]:=by rw[eD,bY,d_ h]
theorem Gp (x:UInt16)(l:List UInt16):nv (x::l)=x.toNat+65536*nv l:=rfl
theorem mH {n:Nat}{L:List UInt16}(h:n<=nv L):(aM n).length<=L.length:=dO (mC h (dJ L))
def Rn (a b:List UInt16):PV := .tup [.sl ((aM (nv a/nv b)).map eD),.sl ((aM (nv a%nv b)).map eD)]
structure RHalf (q lo hi:Nat):Prop where
 l:lo<=q
 h:q<=hi
 m:hi<=65535
theorem s_ (a b:List UInt16)(ha:a.length<=200000000)(hb:b.length<=200000000)(hb0:nv b≠0):aO 156 [.sl (a.map eD),.sl (b.map eD)] (Rn a b):=by
 have hal:(a.map eD).length=a.length:=ao;have hbp:0<nv b:=mE hb0;rw[Rn];have hw0:IntKind.i64.wrap ((((a.map eD).length:Nat):Int)-1)=((a.length:Nat):Int)-1:=by rw[hal,wrap_i64 J J]
 refine ax Proofs.Tryz.func156 ?_;refine cN 2 ?_;refine am (Ghost.nilsl (t:=6) O) ?_;refine H ?_;refine ay (mO O O O O O O O O J (by show(8:Int)*_<=_;omega) J ?_);rw[hal,br,Lc];refine H ?_;rw[hw0];refine ah (ROvr a b) (fun q=>[(0,.sl (a.map eD)),(1,.sl (b.map eD)),(6,.sl ((aM q.2.2).map eD)),(7,.als 14 1 0 (q.2.1.map eD).length),(8,I ((q.1:Int)-1))])
  (fun q=>[(14,1,⟨3,1,q.2.1.map eD,0⟩)]) (fun q=>q.1) (a.length,List.replicate a.length 0,0) EI ⟨O,O,by rw[cM];rfl,O,O,O,trivial⟩ ?_
 rintro⟨k,Q,r⟩ s1 hO;have hk:=hO.i;have hQl:=hO.l;simp only at hk hQl;dsimp only;refine D ?_ ?_<;>intro h
 .have hk0:0<k:=by have:=aB h;omega
  clear h;obtain⟨i,rfl⟩:∃i,k=i+1:=⟨k-1,J⟩;have e1:(((i+1:Nat):Int)-1)=(i:Nat):=J;rw[e1];obtain⟨x,hx⟩:=aC (show i<a.length by omega);have hxl:=cg x;obtain⟨hq,hst⟩:=Io hbp hO hx;have hrb:r<nv b:=by have:=hO.r;simp only at this;rw[this];exact fL _ hbp
  have hrl:(aM r).length<=200000000:=by have:=mH (L:=b) (mt hrb);omega
  have htr:=kt (x::aM r) aV;rw[bN,Gp,bh]at htr;have hRl:(aM (x.toNat+65536*r)).length<=200000001:=by
   have:=fM (x::aM r);rw[Gp,bh]at this;simp at this;omega
  generalize hR:x.toNat+65536*r=R at *
  have hRm:R%nv b=R-nv b*(R/nv b):=by have:=jG R (nv b);omega
  have hQm:(Q.map eD).length=Q.length:=ao;have hQi:=dY (l:=Q) (i:=i) J;have hQ2:(Q.map eD)[i]? = some (eD (Q.getD i 0)):=by rw[bD,hQi];rfl
  have hrow:(x::aM r).map eD=[eD x]++(aM r).map eD:=O
  (refine cN 6 ?_;refine aU 7 ?_)
  iterate 2 refine iH O ?_
  refine tK O O O O O O O hx O ?_;refine iH O ?_;refine ay (aY 0 O O O O O O O O O O O aH O ?_);refine iH O ?_;refine ay (bJ 1 O O O O O O O O O O O aH (by intro row hr;obtain⟨p,_,rfl⟩:=bX.1 hr;rfl) O O aV aV ?_);refine bH ?_;refine bC O (gA (Ghost.takeF (enc:=eD) (t:=28) (x::aM r) O O (O) O (fun _=>rfl)) ?_)
  (refine pe (gp O (htr) O ?_ O) ?_;.repeat' constructor)
  refine aW ?_;refine H ?_;refine ah (fun q:Nat × Nat=>RHalf (R/nv b) q.1 q.2) (fun q=>[(0,.sl (a.map eD)),(1,.sl (b.map eD)),(6,.sl ((aM R).map eD)),(7,.als 14 1 0 (Q.map eD).length),(8,I (i:Nat)),(9,I (q.1:Nat)),(10,I (q.2:Nat))])
   (fun q=>[(14,1,⟨3,1,Q.map eD,0⟩)]) (fun q=>q.2-q.1) (0,65535) ⟨aP _,by simp only;omega,a_⟩ ⟨O,O,O,O,O,O,O,O,trivial⟩ ?_
  rintro⟨lo,hi⟩ s2 ⟨hl,hh,hm⟩;simp only at hl hh hm;dsimp only;refine D ?_ ?_<;>intro h
  .have hlt:lo<hi:=by have:=aB h;omega
   clear h;have w1:IntKind.i64.wrap ((lo:Int)+(hi:Int))=((lo+hi:Nat):Int):=by rw[wrap_i64 J J];omega
   have w2:IntKind.i64.wrap (((lo+hi:Nat):Int)+1)=((lo+hi+1:Nat):Int):=by rw[wrap_i64 J J];omega
   have w3:IntKind.i64.wrap (Int.tdiv ((lo+hi+1:Nat):Int) 2)=(((lo+hi+1)/2:Nat):Int):=by rw[uj J,wrap_i64]<;>omega
   generalize hmm:(lo+hi+1)/2=m at *
   have w4:IntKind.i64.wrap ((m:Int)-1)=((m-1:Nat):Int):=by rw[wrap_i64 J J];omega
   have hm1:m<65536:=J;have ht:=qr b [UInt16.ofNat m] J ao;rw[KH hm1,show [UInt16.ofNat m].map eD=[eD (UInt16.ofNat m)] from O,JF hm1]at ht;have hbm:(aM (nv b*m)).length<=300000000:=by
    have h1:nv b*m<65536^(b.length+1):=by
     have:=jX (dJ b) (show m<65536^1 by omega);exact this
    have:=dO h1;omega
   have hc:=rK (aM (nv b*m)) (aM R) J J;have hcs:=kq (cH (nv b*m)) (cH R);rw[bh,bh]at hcs;have hle:o0 (aM (nv b*m)) (aM R)<=0↔m<=R/nv b:=by
    rw[uq hbp,c_ m];omega
   generalize o0 (aM (nv b*m)) (aM R)=cv at *
   generalize aM (nv b*m)=BM at *
   refine H ?_;rw[w1];refine H ?_;rw[w2];refine H ?_;refine cf O O (QOp.v O (show ¬(2:Int)=0 by decide)) ?_;rw[w3];refine H ?_;refine cf O O (fw O O O O O O O O O O aH O) ?_;refine G ht ?_;refine aj hc ?_;refine D ?_ ?_<;>intro h
   .have h1:=hle.1 (aB h);clear h;refine H ?_;exact⟨(m,hi),⟨h1,hh,hm⟩,by simp only;omega,O,O,O,O,O,O,O,O,trivial⟩
   .have h1:¬m<=R/nv b:=fun h2=>(aE h) (hle.2 h2);clear h;refine H ?_;exact⟨(lo,m-1),⟨hl,by simp only;omega,by simp only;omega⟩,by simp only;omega,O,O,O,O,O,O,congrArg I w4,O,trivial⟩
  .have hge:lo=R/nv b:=by have:=aE h;omega
   clear h;have hw:IntKind.i64.wrap ((i:Int)-1)=(i:Int)-1:=wrap_i64 J J;rw[<-hge]at hst hRm;have hlo:lo<65536:=J;have hlb:nv b*lo<=R:=by rw[hge];exact Nat.mul_div_le R (nv b)
   have hbl:(aM (nv b*lo)).length<=200000001:=by have:=ie hlb;omega
   have ht:=qr b [UInt16.ofNat lo] J ao;rw[KH hlo,show [UInt16.ofNat lo].map eD=[eD (UInt16.ofNat lo)] from O,JF hlo]at ht;have hmn:=qn (aM R) (aM (nv b*lo)) J J (by rw[bh,bh];exact hlb);rw[bh,bh,<-hRm]at hmn;have hset:(Q.map eD).set i [I (lo:Nat)]=(Q.set i (UInt16.ofNat lo)).map eD:=by rw[f8,JF hlo]
   have hsetl:(Q.map eD).length=((Q.set i (UInt16.ofNat lo)).map eD).length:=ao;generalize aM (nv b*lo)=BL at *
   refine H ?_;refine cf O O (cQ O O O O O O O J (by rw[aR];omega)) ?_;rw[br,aX i];refine ec (cK (kd':=0) O O O hQ2 O O aH O O O O ?_);refine D ?_ ?_<;>intro h
   .have h1:0<lo:=by have:=aB h;omega
    clear h;refine H ?_;refine cf O O (fw O O O O O O O O O O aH O) ?_;refine G ht ?_;refine G hmn ?_;refine H ?_;refine⟨(i,Q.set i (UInt16.ofNat lo),R%nv b),hst,by simp only;omega,O,O,O,?_,congrArg I hw,?_,trivial⟩
    .exact congrArg (PV.als 14 1 0) hsetl
    .show(1,some (Cont.mk 3 1 ((Q.map eD).set i [I (lo:Nat)]) 0))=_;rw[hset]
   .have h1:lo=0:=by have:=aE h;omega
    clear h;have hRR:R%nv b=R:=by rw[hRm,h1];omega
    refine H ?_;refine⟨(i,Q.set i (UInt16.ofNat lo),R%nv b),hst,by simp only;omega,O,O,by rw[hRR];rfl,?_,congrArg I hw,?_,trivial⟩
    .exact congrArg (PV.als 14 1 0) hsetl
    .show(1,some (Cont.mk 3 1 ((Q.map eD).set i [I (lo:Nat)]) 0))=_;rw[hset]
 .have hk0:k=0:=by have:=aE h;omega
  subst hk0;clear h;obtain⟨hv,hr⟩:=Ln hO;subst hr;have ht:=kt Q J;rw[bN,hv]at ht
  (refine cN 16 ?_;refine aU 1 ?_)
  refine iH O ?_;refine bH ?_;refine bC O (gA (Ghost.takeF (enc:=eD) (t:=60) (Q) O O (O) O (fun _=>rfl)) ?_)
  (refine pe (gp O (ht) O ?_ O) ?_;.repeat' constructor)
  refine aW ?_;refine H ?_;exact DY O O O O O trivial trivial O
theorem Lh (a b:List UInt16)(ha:a.length<=100000000)(hb:b.length<=100000000)(hta:Trm a)(htb:Trm b):aO 155 [.sl (a.map eD),.sl (b.map eD)] (.sl ((aM (Nat.gcd (nv a) (nv b))).map eD)):=by
 generalize hg:Nat.gcd (nv a) (nv b)=g;refine ax Proofs.Tryz.func155 ?_;refine H ?_;refine ah (fun q:List UInt16 × List UInt16=>q.1.length<=100000000/\q.2.length<=100000000/\Trm q.1/\Trm q.2/\Nat.gcd (nv q.1) (nv q.2)=g) (fun q=>[(0,.sl (q.1.map eD)),(1,.sl (q.2.map eD))]) (fun _=>[]) (fun q=>nv q.2) (a,b) ⟨ha,hb,hta,htb,hg⟩ ⟨O,O,trivial⟩ ?_;rintro⟨A,B⟩ s ⟨hA,hB,htA,htB,hG⟩;simp only at hA hB htA htB hG;dsimp only;have hBm:(B.map eD).length=B.length:=ao;refine D ?_ ?_<;>intro h
 .have hB0:0<B.length:=by have:=aB h;omega
  clear h;have hB0v:nv B≠0:=by
   match B,hB0,htB with
   |x::l,_,h=>exact vf h
  have hd:=s_ A B J J hB0v;rw[Rn]at hd;have hml:=fL (nv A) (mE hB0v);have hnext:(aM (nv A%nv B)).length<=100000000:=by
   have h1:=ie (mt hml);have h2:=fM B;omega
  have hG2:Nat.gcd (nv B) (nv (aM (nv A%nv B)))=g:=by rw[bh,iW,<-rD,iW];exact hG
  refine G hd ?_;refine H ?_;exact⟨(B,aM (nv A%nv B)),⟨hB,hnext,htB,cH _,hG2⟩,by simp only;rw[bh];exact hml,O,O,trivial⟩
 .have hB0:B.length=0:=by have:=aE h;omega
  clear h;have hB0v:=oB.1 hB0;subst hB0v;rw[nv,rp]at hG;rw[<-hG,kC htA];refine H ?_;exact lB O O O trivial O
theorem KF (neg:Bool)(l:List UInt16)(h:Trm l):du (iQ neg (nv l))=⟨neg&&decide (0<l.length),l⟩:=by
 rw[uT];cases l with
 |nil=>rw[nv,if_pos rfl];simp
 |cons x l =>
  rw[if_neg (vf h),kC h];simp
theorem i6 (neg:Bool)(l:List UInt16)(hl:l.length<=900000000)(ht:Trm l):aO 153 [.bool neg,.sl (l.map eD)] (.agg (eI (du (iQ neg (nv l))))):=by
 have hml:(l.map eD).length=l.length:=ao;rw[KF neg l ht];cases neg with
 |false =>
  rw[eP];refine ax Proofs.Tryz.func153 ?_;refine cN 2 ?_;refine am (Ghost.nilcell (k:=1007) (k0:=5) (i:=0) (j:=1) 57 1 0 O O O O (row:=[.bool false,.nil]) O O O) ?_;refine H ?_;refine ah (fun k=>k<=l.length) (fun k=>[(1,.sl (l.map eD)),(4,.ptr 4 1 0 0),(5,.ptr 5 1 0 0),(6,I (k:Nat))])
   (fun k=>[(4,1,⟨40,2,[[.bool false,.nil]],2⟩),(5,1,⟨40,2,[[.bool false,.als 1007 (k+1) 0 ((l.take k).map eU).length]],2⟩),(1007,k+1,⟨57,1,(l.take k).map eU,0⟩)]) (fun k=>l.length-k) 0 (aP _) ⟨O,O,O,O,O,O,O,trivial⟩ ?_
  intro k s hk;refine D ?_ ?_<;>intro h
  .have hlt:k<l.length:=by have:=aB h;omega
   clear h;obtain⟨x,hx⟩:=aC hlt;have hxl:=cg x;have hkl:(l.take k).length=k:=by rw[bw];omega
   have hw:=fg k;have hcx:IntKind.u16.wrap (x.toNat:Int)=(x.toNat:Int):=by rw[IntKind.wrap_u16];omega
   refine cO 8 [20,21,22,23,24,25,26,27] ?_;refine aQ hx ?_;refine H ?_;rw[hcx];refine cf O O (fw O O O O O O O O O O aH O) ?_;refine H ?_;refine ay (bJ 0 O O O O O O O O O O O aH (by intro row hr;first|(simp at hr;subst hr;rfl)|simp at hr) O O aV aV ?_);refine H ?_;refine⟨k+1,hlt,J,O,O,O,congrArg I hw,O,?_,?_,trivial⟩
   .rw[gC hx,bc];rfl
   .rw[gC hx,bc];rfl
  .have hge:k=l.length:=by have:=aE h;omega
   subst hge;clear h;rw[bb];exact bW
 |true =>
  rw[io];have hd:decide ((0:Int)<(((l.map eD).length:Nat):Int))=decide (0<l.length):=by rw[hml,decide_eq_decide];omega
  rw[<-hd];generalize hP:decide ((0:Int)<(((l.map eD).length:Nat):Int))=P;refine ax Proofs.Tryz.func153 ?_
  ((repeat (first|refine bH ?_ | refine dT ?_ | refine dF ?_ | refine dy ?_));refine bZ ?_)
  refine cN 2 ?_;rw[hP];refine am (Ghost.nilcell (k:=1007) (k0:=5) (i:=0) (j:=1) 57 1 0 O O O O (row:=[.bool P,.nil]) O O O) ?_;refine H ?_;refine ah (fun k=>k<=l.length) (fun k=>[(1,.sl (l.map eD)),(4,.ptr 4 1 0 0),(5,.ptr 5 1 0 0),(6,I (k:Nat))])
   (fun k=>[(4,1,⟨40,2,[[.bool false,.nil]],2⟩),(5,1,⟨40,2,[[.bool P,.als 1007 (k+1) 0 ((l.take k).map eU).length]],2⟩),(1007,k+1,⟨57,1,(l.take k).map eU,0⟩)]) (fun k=>l.length-k) 0 (aP _) ⟨O,O,O,O,O,O,O,trivial⟩ ?_
  intro k s hk;refine D ?_ ?_<;>intro h
  .have hlt:k<l.length:=by have:=aB h;omega
   clear h;obtain⟨x,hx⟩:=aC hlt;have hxl:=cg x;have hkl:(l.take k).length=k:=by rw[bw];omega
   have hw:=fg k;have hcx:IntKind.u16.wrap (x.toNat:Int)=(x.toNat:Int):=by rw[IntKind.wrap_u16];omega
   refine cO 8 [20,21,22,23,24,25,26,27] ?_;refine aQ hx ?_;refine H ?_;rw[hcx];refine cf O O (fw O O O O O O O O O O aH O) ?_;refine H ?_;refine ay (bJ 0 O O O O O O O O O O O aH (by intro row hr;first|(simp at hr;subst hr;rfl)|simp at hr) O O aV aV ?_);refine H ?_;refine⟨k+1,hlt,J,O,O,O,congrArg I hw,O,?_,?_,trivial⟩
   .rw[gC hx,bc];rfl
   .rw[gC hx,bc];rfl
  .have hge:k=l.length:=by have:=aE h;omega
   subst hge;clear h;rw[bb];exact bW
theorem wD {n:Nat}{L:List UInt16}{u:Nat}(h:aM n=L++aM u)(hu:0<u):aM n=(L++[UInt16.ofNat u])++aM (u/65536):=by
 rw[h,gL J,bi];rfl
theorem wC {n:Nat}(h:n<18446744073709551616):(aM n).length<=4:=by
 have e:(65536:Nat)^4=18446744073709551616:=Y;exact dO J
theorem NK (n:Int)(h0:0<=n)(h1:n<=9223372036854775807):aO 154 [I n] (.agg (eI (du n))):=by
 have hm:=i6 false (aM n.toNat) (by have:=wC (n:=n.toNat) J;omega) (cH _);rw[bh,show iQ false n.toNat=n by rw[iQ];simp;omega]at hm;have hcv:IntKind.u64.wrap n=((n.toNat:Nat):Int):=by rw[wrap_u64 J J];omega
 have hnl:=wC (n:=n.toNat) J;have hlt:decide (n<0)=false:=decide_eq_false J;generalize du n=Z at *
 refine ax Proofs.Tryz.func154 ?_;refine cN 1 ?_
 ((repeat (first|refine bH ?_ | refine dT ?_ | refine dF ?_ | refine dy ?_));refine bZ ?_)
 (first|refine ay (kG 3 1 0 O O ?_)|refine ay (kF 3 1 0 O O ?_))
 refine H ?_;rw[hcv];refine D ?_ ?_<;>intro h
 .have:=aB h;omega
 clear h;refine H ?_;refine ah (fun q:List UInt16 × Nat=>q.2<18446744073709551616/\aM n.toNat=q.1++aM q.2) (fun q=>[(0,I n),(2,.ptr 2 1 0 0),(3,.als 3 (q.1.length+1) 0 (q.1.map eD).length),(4,.int .u64 (q.2:Nat))])
  (fun q=>[(2,1,⟨40,2,[[.bool false,.nil]],2⟩),(3,q.1.length+1,⟨3,1,q.1.map eD,0⟩)]) (fun q=>q.2) ([],n.toNat) ⟨by simp only;omega,O⟩ ⟨O,O,O,O,O,O,trivial⟩ ?_
 rintro⟨L,u⟩ s ⟨hu,hL⟩;simp only at hu hL;dsimp only;have hLl:L.length<=4:=by rw[hL]at hnl;simp at hnl;omega
 refine D ?_ ?_<;>intro h
 .have hu0:0<u:=by have:=aB h;omega
  clear h;have hst:=wD hL hu0;have hr:IntKind.i64.wrap (Int.tmod ((u:Nat):Int) 65536)=((UInt16.ofNat u).toNat:Int):=by rw[uZ,wrap_i64]<;>(have:=cg (UInt16.ofNat u);omega)
  have hq:IntKind.u64.wrap (Int.tdiv ((u:Nat):Int) 65536)=((u/65536:Nat):Int):=by rw[uX,wrap_u64]<;>omega
  refine H ?_;refine cf O O (QOp.v O (show ¬(65536:Int)=0 by decide)) ?_;refine H ?_;rw[hr];refine ay (aY 0 O O O O O O O O O O O aH O ?_);refine H ?_;refine ay (bJ 0 O O O O O O O O O O O aH (by intro row hr;first|(simp at hr;subst hr;rfl)|simp at hr) O O aV aV ?_);refine H ?_;refine cf O O (QOp.v O (show ¬(65536:Int)=0 by decide)) ?_;rw[hq];refine H ?_;refine⟨(L++[UInt16.ofNat u],u/65536),⟨by simp only;omega,hst⟩,by simp only;omega,O,O,?_,O,O,?_,trivial⟩
  .exact ol 3 L (UInt16.ofNat u)
  .exact lP 3 1 0 L (UInt16.ofNat u)
 .have hu0:u=0:=by have:=aE h;omega
  clear h;subst hu0;rw[cM,b8]at hL;rw[hL]at hm
  (refine cN 8 ?_;refine aU 3 ?_)
  iterate 2 refine iH O ?_
  rw[hlt];refine iH O ?_;refine bH ?_;refine bC O (gA (Ghost.takeF (enc:=eD) (t:=23) (L) O O (O) O (fun _=>rfl)) ?_)
  (refine pe (gp O (hm) O ?_ O) ?_;.repeat' constructor)
  refine aW ?_;exact bW
theorem Lk (a:RI)(ha:a.l.length<=800000000):aO 150 [.agg (eI a)] (.agg (eI (du (-a.val)))):=by
 have hr:=jS a.l J;have hm:=i6 (!a.neg) (bN a.l) (by have:=dr a.l;omega) (jC _);rw[fy,show iQ (!a.neg) (nv a.l) = -a.val by rw[a.val_sgz];cases a.neg<;>simp[iQ]]at hm;generalize du (-a.val)=Z,bN a.l=T at *
 obtain⟨an,al⟩:=a;simp only at *
 refine ax Proofs.Tryz.func150 ?_;refine cO 7 [3,4,5,6,7,8,9] ?_;refine G hr ?_;refine G hm ?_;exact bW
theorem Is (a:RI)(ha:a.l.length<=800000000):aO 114 [.agg (eI a)] (I (r9 a.val)):=by
 have ht:=jS a.l J;have hm:((bN a.l).map eD).length=(bN a.l).length:=ao;have h0:=tl (l:=a.l);have hz:=a.val_zero;have hv:a.val=if a.neg then -(nv a.l:Int) else(nv a.l:Int):=O
 generalize bN a.l=T at *
 obtain⟨an,al⟩:=a;simp only at *
 refine ax Proofs.Tryz.func114 ?_;refine G ht ?_;refine D ?_ ?_<;>intro h
 .have h1:nv al=0:=h0.1 (by have:=aB h;omega);rw[r9,if_pos (hz.2 h1)];exact co
 .have h1:nv al≠0:=by
   intro h1;have h2:=aE h;have:=h0.2 h1;omega
  rw[r9,if_neg (fun h=>h1 (hz.1 h))];clear h;cases an
  .rw[if_neg (by rw[hv];simp only[cF,if_false];omega)];exact co
  .rw[if_pos (by rw[hv];simp only[if_true];omega)];exact co
theorem kK (a b:RI)(ha:a.l.length<=300000000)(hb:b.l.length<=300000000):aO 89 [.agg (eI a),.agg (eI b)] (.agg (eI (du (a.val*b.val)))):=by
 have e:a.val*b.val=iQ (a.neg != b.neg) (nv a.l*nv b.l):=by
  rw[a.val_sgz,b.val_sgz];cases a.neg<;>cases b.neg<;>simp[iQ,Int.neg_mul,Int.mul_neg]
 rw[e];have hta:=jS a.l J;have htb:=jS b.l J;have hla:=dr a.l;have hlb:=dr b.l;have ht:=qr (bN a.l) (bN b.l) J J;rw[fy,fy]at ht;have hs:=i6 (a.neg != b.neg) (aM (nv a.l*nv b.l)) (by
  have:=dO (jX (dJ a.l) (dJ b.l));omega) (cH _)
 rw[bh]at hs;obtain⟨an,al⟩:=a;obtain⟨bn,bl⟩:=b;simp only at *
 generalize bN al=A,bN bl=B,aM (nv al*nv bl)=C,du (iQ (an != bn) (nv al*nv bl))=X at *
 refine ax Proofs.Tryz.func89 ?_;refine cO 13 [5,6,7,8,9,10,11,12,13,14,15,16,17] ?_;refine G hta ?_;refine G htb ?_;refine G ht ?_;refine G hs ?_;exact bW
theorem K6 (a b:RI)(ha:a.l.length<=300000000)(hb:b.l.length<=300000000):aO 88 [.agg (eI a),.agg (eI b)] (.agg (eI (du (a.val+b.val)))):=by
 have hta:=jS a.l J;have htb:=jS b.l J;have hla:=dr a.l;have hlb:=dr b.l;have hA:=jC a.l;have hB:=jC b.l;have hnA:=fy a.l;have hnB:=fy b.l;rw[a.val_sgz,b.val_sgz];obtain⟨an,al⟩:=a;obtain⟨bn,bl⟩:=b;simp only at *
 rw[<-hnA,<-hnB];generalize bN al=A,bN bl=B at *
 have hp:=Iq A B J J;have hcm:=rK A B J J;have hcs:=(kq hA hB).1;have hlA:=fM A;have hlB:=fM B;have hlp:(aM (nv A+nv B)).length<=900000000:=by
  have:=Bz (n:=400000000) (A:=A) (B:=B) J J;omega
 by_cases hs:an=bn
 .subst hs;have hd:=i6 an (aM (nv A+nv B)) hlp (cH _);rw[bh]at hd;have e:iQ an (nv A)+iQ an (nv B)=iQ an (nv A+nv B):=by cases an<;>simp only[iQ,cF,if_false,if_true]<;>omega
  rw[e];generalize aM (nv A+nv B)=C,du (iQ an (nv A+nv B))=X at *
  refine ax Proofs.Tryz.func88 ?_;refine cO 8 [7,8,9,10,11,12,5,6] ?_;refine G hta ?_;refine G htb ?_;refine D ?_ ?_<;>intro h
  .clear h;refine cO 6 [18,19,20,21,22,23] ?_;refine G hp ?_;refine G hd ?_;exact bW
  .exfalso;simp at h
 .have hmA:nv B<=nv A->aO 159 [.sl (A.map eD),.sl (B.map eD)] (.sl ((aM (nv A-nv B)).map eD)):=qn A B J J;have hmB:nv A<=nv B->aO 159 [.sl (B.map eD),.sl (A.map eD)] (.sl ((aM (nv B-nv A)).map eD)):=qn B A J J;have hlm:(aM (nv A-nv B)).length<=900000000:=by have:=ie (Nat.sub_le (nv A) (nv B));omega
  have hlm2:(aM (nv B-nv A)).length<=900000000:=by have:=ie (Nat.sub_le (nv B) (nv A));omega
  have hdA:=i6 an (aM (nv A-nv B)) hlm (cH _);have hdB:=i6 bn (aM (nv B-nv A)) hlm2 (cH _);rw[bh]at hdA hdB;have eA:nv B<=nv A->iQ an (nv A)+iQ bn (nv B)=iQ an (nv A-nv B):=by intro h;cases an<;>cases bn<;>simp_all only [iQ,cF,if_false,if_true,not_true_eq_false,reduceCtorEq,not_false_eq_true]<;>omega
  have eB:nv A<=nv B->iQ an (nv A)+iQ bn (nv B)=iQ bn (nv B-nv A):=by intro h;cases an<;>cases bn<;>simp_all only [iQ,cF,if_false,if_true,not_true_eq_false,reduceCtorEq,not_false_eq_true]<;>omega
  generalize iQ an (nv A)+iQ bn (nv B)=Z,aM (nv A-nv B)=C,aM (nv B-nv A)=D0 at *
  generalize hX:du (iQ an (nv A-nv B))=X at *
  generalize hY:du (iQ bn (nv B-nv A))=Y0 at *
  refine ax Proofs.Tryz.func88 ?_;refine cO 8 [7,8,9,10,11,12,5,6] ?_;refine G hta ?_;refine G htb ?_;refine D ?_ ?_<;>intro h
  .exfalso;simp at h;exact hs h
  .clear h;refine aj hcm ?_;refine D ?_ ?_<;>intro h
   .have hge:nv B<=nv A:=by
     have h1:=aB h;omega
    clear h;refine cO 6 [28,29,30,31,32,33] ?_;refine G (hmA hge) ?_;refine G hdA ?_;refine H ?_;exact DZ O aH O aH (by rw[eA hge,hX];rfl)
   .have hge:nv A<=nv B:=by
     have h1:=aE h;omega
    clear h;refine cO 6 [34,35,36,37,38,39] ?_;refine G (hmB hge) ?_;refine G hdB ?_;refine H ?_;exact DZ O aH O aH (by rw[eB hge,hY];rfl)
theorem Cu (z:Int):ofQ ((z:Rat))=⟨du z,du 1⟩:=by
 rw[ofQ,Rat.num_intCast,Rat.den_intCast];rfl
theorem AN (q:Rat):ofQ q=⟨du q.num,du (q.den:Int)⟩:=by
 rw[ofQ,du,du];congr 2
theorem mT (a b:RI)(ha:a.l.length<=90000000)(hb:b.l.length<=90000000):aO 87 [.agg (eI a),.agg (eI b)] (.agg (eR (ofQ ((a.val:Rat)/(b.den:Rat))))):=by
 have hta:=jS a.l J;have htb:=jS b.l J;have hla:=dr a.l;have hlb:=dr b.l;have hb0:=tl (l:=b.l);have hAn:=fy a.l;have hBn:=fy b.l;have hAt:=jC a.l;have hBt:=jC b.l;have h1:=NK 1 Y Y;by_cases h0:nv b.l=0
 .have e:ofQ ((a.val:Rat)/(b.den:Rat))=⟨du a.val,du 1⟩:=by
   rw[RI.den,if_pos h0,<-Cu];congr 1;rw[show((1:Int):Rat)=1 from O];grind
  rw[e];have hm:=i6 a.neg (bN a.l) J hAt;rw[hAn,<-a.val_sgz]at hm;have hz:bN b.l=[]:=by rw[bN,h0,cM]
  rw[hz]at htb;generalize du a.val=X,du 1=Y0,bN a.l=A at *
  obtain⟨an,al⟩:=a;obtain⟨bn,bl⟩:=b;simp only at *
  refine ax Proofs.Tryz.func87 ?_;refine cO 8 [12,13,14,15,16,17,5,6] ?_;refine G hta ?_;refine G htb ?_;refine G hm ?_;refine G h1 ?_;exact bW
 .have hbp:0<nv b.l:=mE h0;rw[RI.den,if_neg h0,Cv a b h0];have hg:=Lh (bN a.l) (bN b.l) J J hAt hBt;rw[hAn,hBn]at hg;have hgp:0<Nat.gcd (nv a.l) (nv b.l):=Aa _ hbp;have hgl:Nat.gcd (nv a.l) (nv b.l)<=nv b.l:=Nat.gcd_le_right _ hbp;have hgs:(aM (Nat.gcd (nv a.l) (nv b.l))).length<=90000000:=by
   have:=mH (L:=b.l) hgl;omega
  generalize Nat.gcd (nv a.l) (nv b.l)=g at *
  have d1:=s_ (bN a.l) (aM g) J J (by rw[bh];omega);have d2:=s_ (bN b.l) (aM g) J J (by rw[bh];omega);rw[Rn,bh,hAn]at d1;rw[Rn,bh,hBn]at d2;have m1:=i6 (a.neg != b.neg) (aM (nv a.l/g)) (by have:=mH (L:=a.l) (ju (nv a.l) g);omega) (cH _);have m2:=i6 false (aM (nv b.l/g)) (by have:=mH (L:=b.l) (ju (nv b.l) g);omega) (cH _);rw[bh]at m1 m2;have hbl:¬((bN b.l).length=0):=fun h=>h0 (hb0.1 h);have hbm:((bN b.l).map eD).length=(bN b.l).length:=ao;generalize du (iQ (a.neg != b.neg) (nv a.l/g))=X,du (iQ false (nv b.l/g))=Y0,aM (nv a.l/g)=A2,aM (nv b.l/g)=B2,aM (nv a.l%g)=A3,aM (nv b.l%g)=B3,aM g=G0,bN a.l=A,bN b.l=B at *
  obtain⟨an,al⟩:=a;obtain⟨bn,bl⟩:=b;simp only at *
  refine ax Proofs.Tryz.func87 ?_;refine cO 8 [12,13,14,15,16,17,5,6] ?_;refine G hta ?_;refine G htb ?_;refine D ?_ ?_<;>intro h
  .exact absurd (by have:=aB h;omega) hbl
  clear h;refine G hg ?_;refine G d1 ?_;refine G d2 ?_;refine G m1 ?_;refine G m2 ?_;exact bW
theorem ef (x:RR)(hn:x.n.l.length<=90000000)(hd:x.d.l.length<=90000000):aO 86 [.agg (eR x)] (.agg (eR (ofQ x.val))):=by
 have h:=mT x.n x.d hn hd;rw[show(x.n.val:Rat)/(x.d.den:Rat)=x.val from O]at h;generalize ofQ x.val=X at *
 refine ax Proofs.Tryz.func86 ?_;refine G h ?_;exact bW
theorem jn (q:Rat):(ofQ q).n.val=q.num:=di _
theorem gj (q:Rat):(ofQ q).d.val=(q.den:Int):=by rw[AN];exact di _
theorem Im (x:RR){p:Rat}{n:Nat}[hx:Vq x p n](hn:n<=50000000):aO 81 [.agg (eR x)] (.agg (eR (ofQ (-p)))):=by
 have h1:=hx.sz;have hh:=hx.hq;have hl:=fF hh.ok;have hnm:=ef x J J;rw[hx.val]at hnm;have hng:=Lk (ofQ p).n J;rw[jn]at hng;have e:ofQ (-p)=⟨du (-p.num),(ofQ p).d⟩:=by rw[AN,AN];simp
 rw[e];generalize du (-p.num)=Z,ofQ p=P at *
 refine ax Proofs.Tryz.func81 ?_;refine G hnm ?_;refine cO 6 [6,7,8,9,10,11] ?_;refine G hng ?_;exact bW
theorem NF (q:Rat):nv (ofQ q).d.l≠0:=by
 have:=gj q;have h2:=(ofQ q).d.val_abs;rw[this]at h2;have:=q.den_pos;omega
theorem sn {a:RI}(h:nv a.l≠0):a.den=a.val:=by rw[RI.den,if_neg h]
theorem cy (x y:RR){p q:Rat}{n m:Nat}[hx:Vq x p n][hy:Vq y q m](hn:n<=20000000)(hm:m<=20000000):aO 99 [.agg (eR x),.agg (eR y)] (.agg (eR (ofQ (p*q)))):=by
 have h1:=hx.sz;have h2:=hy.sz;have l1:=fF hx.hq.ok;have l2:=fF hy.hq.ok;have n1:=ef x J J;have n2:=ef y J J;rw[hx.val]at n1;rw[hy.val]at n2;have m1:=kK (ofQ p).n (ofQ q).n J J;have m2:=kK (ofQ p).d (ofQ q).d J J;have k1:=eE (ofQ p).n (ofQ q).n;have k2:=eE (ofQ p).d (ofQ q).d;have m3:=mT (du ((ofQ p).n.val*(ofQ q).n.val)) (du ((ofQ p).d.val*(ofQ q).d.val)) J J;have hne:nv (du ((ofQ p).d.val*(ofQ q).d.val)).l≠0:=by
  rw[tG,bh,gj,gj,jv];have:=mu p.den_pos q.den_pos;simp only[gT];omega
 rw[sn hne,di,di,jn,jn,gj,gj,<-A5,<-js,<-js]at m3;rw[jn,jn]at m1;rw[gj,gj]at m2;generalize du (p.num*q.num)=Z1,du ((p.den:Int)*(q.den:Int))=Z2,ofQ (p*q)=R,ofQ p=P,ofQ q=Q at *
 refine ax Proofs.Tryz.func99 ?_;refine H ?_;refine be [(4,5),(5,6),(6,5),(7,6)] aK aK ?_;refine G n1 ?_;refine G n2 ?_;refine cO 11 [11,12,13,14,15,16,17,18,19,20,21] ?_;refine G m1 ?_;refine G m2 ?_;refine G m3 ?_;exact bW
theorem iO (x y:RR){p q:Rat}{n m:Nat}[hx:Vq x p n][hy:Vq y q m](hn:n<=20000000)(hm:m<=20000000)(h0:q≠0):aO 84 [.agg (eR x),.agg (eR y)] (.agg (eR (ofQ (p/q)))):=by
 have h1:=hx.sz;have h2:=hy.sz;have l1:=fF hx.hq.ok;have l2:=fF hy.hq.ok;have n1:=ef x J J;have n2:=ef y J J;rw[hx.val]at n1;rw[hy.val]at n2;have m1:=kK (ofQ p).n (ofQ q).d J J;have m2:=kK (ofQ p).d (ofQ q).n J J;have k1:=eE (ofQ p).n (ofQ q).d;have k2:=eE (ofQ p).d (ofQ q).n;have m3:=mT (du ((ofQ p).n.val*(ofQ q).d.val)) (du ((ofQ p).d.val*(ofQ q).n.val)) J J;have hne:nv (du ((ofQ p).d.val*(ofQ q).n.val)).l≠0:=by
  rw[tG,bh,gj,jn,jv];have hq:q.num≠0:=fun h=>h0 (Rat.num_eq_zero.1 h);have:=mu p.den_pos (show 0<q.num.natAbs by omega);simp only[gT];omega
 rw[sn hne,di,di,jn,jn,gj,gj,<-A4,<-js,<-js]at m3;rw[jn,gj]at m1;rw[gj,jn]at m2;generalize du (p.num*(q.den:Int))=Z1,du ((p.den:Int)*q.num)=Z2,ofQ (p/q)=R,ofQ p=P,ofQ q=Q at *
 refine ax Proofs.Tryz.func84 ?_;refine H ?_;refine be [(4,5),(5,6),(6,5),(7,6)] aK aK ?_;refine G n1 ?_;refine G n2 ?_;refine cO 11 [11,12,13,14,15,16,17,18,19,20,21] ?_;refine G m1 ?_;refine G m2 ?_;refine G m3 ?_;exact bW
theorem cJ (x y:RR){p q:Rat}{n m:Nat}[hx:Vq x p n][hy:Vq y q m](hn:n<=20000000)(hm:m<=20000000):aO 28 [.agg (eR x),.agg (eR y)] (.agg (eR (ofQ (p+q)))):=by
 have h1:=hx.sz;have h2:=hy.sz;have l1:=fF hx.hq.ok;have l2:=fF hy.hq.ok;have n1:=ef x J J;have n2:=ef y J J;rw[hx.val]at n1;rw[hy.val]at n2;have m1:=kK (ofQ p).n (ofQ q).d J J;have m2:=kK (ofQ q).n (ofQ p).d J J;have m4:=kK (ofQ p).d (ofQ q).d J J;have k1:=eE (ofQ p).n (ofQ q).d;have k2:=eE (ofQ q).n (ofQ p).d;have k4:=eE (ofQ p).d (ofQ q).d;have m5:=K6 (du ((ofQ p).n.val*(ofQ q).d.val)) (du ((ofQ q).n.val*(ofQ p).d.val)) J J;have k5:=Cx (du ((ofQ p).n.val*(ofQ q).d.val)) (du ((ofQ q).n.val*(ofQ p).d.val)) (n:=50000000) J J;rw[di,di]at m5 k5;have m3:=mT (du ((ofQ p).n.val*(ofQ q).d.val+(ofQ q).n.val*(ofQ p).d.val)) (du ((ofQ p).d.val*(ofQ q).d.val)) J J;have hne:nv (du ((ofQ p).d.val*(ofQ q).d.val)).l≠0:=by
  rw[tG,bh,gj,gj,jv];have:=mu p.den_pos q.den_pos;simp only[gT];omega
 rw[sn hne,di,di,jn,jn,gj,gj,<-AY _ _ _ _ (fh p) (fh q),<-js,<-js]at m3;rw[jn,gj]at m1;rw[jn,gj]at m2;rw[gj,gj]at m4;rw[jn,jn,gj,gj]at m5;generalize du (p.num*(q.den:Int)+q.num*(p.den:Int))=Z5,du (p.num*(q.den:Int))=Z1,du (q.num*(p.den:Int))=Z2,du ((p.den:Int)*(q.den:Int))=Z4,ofQ (p+q)=R,ofQ p=P,ofQ q=Q at *
 refine ax Proofs.Tryz.func28 ?_;refine H ?_;refine be [(4,5),(5,6),(6,5),(7,6)] aK aK ?_;refine G n1 ?_;refine G n2 ?_;refine cO 17 [11,12,13,14,15,16,17,18,19,20,21,22,23,24,25,26,27] ?_;refine G m1 ?_;refine G m2 ?_;refine G m5 ?_;refine G m4 ?_;refine G m3 ?_;exact bW
theorem iP (x y:RR){p q:Rat}{n m:Nat}[hx:Vq x p n][hy:Vq y q m](hn:n<=10000000)(hm:m<=10000000):aO 24 [.agg (eR x),.agg (eR y)] (.agg (eR (ofQ (p-q)))):=by
 have h1:=Im y J;have vn:Vq (ofQ (-q)) (-q) (m+1):=Vq.ofQ (h:=@HQ.neg _ _ hy.hq);have h2:=cJ x (ofQ (-q)) (hy:=vn) J J;rw[<-mD]at h2;generalize ofQ (-q)=Y0,ofQ (p-q)=X at *
 refine ax Proofs.Tryz.func24 ?_;refine cO 4 [5,6,7,8] ?_;refine G h1 ?_;refine G h2 ?_;exact bW
theorem NP (p:Rat):r9 p.num=sgn p:=by
 have h1:(ofQ p).val=p:=ofQ_val p;have h2:=GF (ofQ p);rw[h1,jn]at h2;have h3:(dn (ofQ p)).val=(p.den:Int):=by rw[dn,if_neg (NF p),gj]
 rw[h3]at h2;rw[h2];have:=p.den_pos;have h4:r9 (p.den:Int)=1:=by unfold r9;split<;>(try split)<;>omega
 rw[h4];omega
theorem gu (x:RR){p:Rat}{n:Nat}[hx:Vq x p n](hn:n<=50000000):aO 49 [.agg (eR x)] (I (sgn p)):=by
 have h1:=hx.sz;have hl:=fF hx.hq.ok;have hnm:=ef x J J;rw[hx.val]at hnm;have hs:=Is (ofQ p).n J;rw[jn,NP]at hs;generalize sgn p=g,ofQ p=P at *
 obtain⟨Pn,Pd⟩:=P;simp only at *
 refine ax Proofs.Tryz.func49 ?_;refine G hnm ?_;refine aj hs ?_;exact co
theorem eX (x y:RR){p q:Rat}{n m:Nat}[hx:Vq x p n][hy:Vq y q m](hn:n<=10000000)(hm:m<=10000000):aO 29 [.agg (eR x),.agg (eR y)] (I (sgn (p-q))):=by
 have h1:=iP x y hn hm;have vs:Vq (ofQ (p-q)) (p-q) (n+1+(m+1)+1):=Vq.ofQ (h:=@HQ.sub _ _ _ _ hx.hq hy.hq);have h2:=gu (ofQ (p-q)) (hx:=vs) J;generalize ofQ (p-q)=X,sgn (p-q)=g at *
 refine ax Proofs.Tryz.func29 ?_;refine G h1 ?_;refine aj h2 ?_;exact co
def gl (x:Rat):Rat:=if 0<x then x else 0
def wI (x y:Rat):Rat:=if y<x then y else x
def cE (M:Nat->Rat):Nat->Rat
 |0=>0
 |k+1=>M k
def fU (S M:Nat->Rat)(y:Rat)(k:Nat):Rat:=if y-S k<0 then 0 else(M k-cE M k)*(y-S k)
def jk (S:Nat->Rat)(n:Nat)(y:Rat)(k:Nat):Rat:=if k+1<n then wI y (S (k+1)) else y
def dj (S M:Nat->Rat)(n:Nat)(y:Rat)(k:Nat):Rat:=M k*gl (jk S n y k-S k)
theorem sU {S M:Nat->Rat}{y:Rat}(k:Nat):fU S M y k=(M k-cE M k)*gl (y-S k):=by
 rw[fU,gl];grind
theorem yO (S M:Nat->Rat)(y:Rat):∀(k n:Nat),(∀i,i<k->S i<S (i+1))->k<n->aq (fU S M y) (k+1)=aq (dj S M n y) k+M k*gl (y-S k)
 |0,n,_,_=>by
  rw[aq,aq,aq,sU,cE];grind
 |k+1,n,h,hk=>by
  have ih:=yO S M y k n (fun i hi=>h i J) J;have hs:=h k J;rw[aq,ih,sU,cE,aq,dj,jk,if_pos hk];have key:gl (y-S k)=gl (wI y (S (k+1))-S k)+gl (y-S (k+1)):=by
   simp only[gl,wI];grind
  rw[key];grind
theorem kJ {S M:Nat->Rat}{y:Rat}{n:Nat}(h:∀i,i+1<n->S i<S (i+1)):aq (fU S M y) n=aq (dj S M n y) n:=by
 cases n with
 |zero=>rfl
 |succ k =>
  rw[yO S M y k (k+1) (fun i hi=>h i J) J];rw[aq,dj,jk,if_neg J]
theorem u_ {f g:Nat->Rat}:∀ {n:Nat},(∀k,k<n->f k<=g k)->aq f n<=aq g n
 |0,_=>ez
 |n+1,h=>by
  have h1:=u_ (n:=n) fun k hk=>h k J;have h2:=h n J;rw[aq,aq];grind
theorem xy {f g:Nat->Rat}:∀ {n:Nat},aq (fun k=>f k+g k) n=aq f n+aq g n
 |0=>by rw[aq,aq,aq];grind
 |n+1=>by rw[aq,aq,aq,xy];grind
theorem nY {f:Nat->Rat}{c:Rat}:∀ {n:Nat},aq (fun k=>f k*c) n=aq f n*c
 |0=>by rw[aq,aq];grind
 |n+1=>by rw[aq,aq,nY];grind
theorem zi {f:Nat->Rat}:∀ {n:Nat},(∀k,k<n->f k=0)->aq f n=0
 |0,_=>rfl
 |n+1,h=>by rw[aq,zi fun k hk=>h k J,h n J];grind
theorem rT {f:Nat->Rat}:∀ {n i:Nat},(∀k,k<n->0<=f k)->i<n->f i<=aq f n
 |0,_,_,hi=>by omega
 |n+1,i,h,hi=>by
  have h0:=lp (f:=f) (n:=n) fun k hk=>h k J;rw[aq];by_cases he:i=n
  .subst he;grind
  .have:=rT (f:=f) (n:=n) (i:=i) (fun k hk=>h k J) J;have:=h n J;grind
theorem L8 {f:Nat->Rat}{n:Nat}(h:0<aq f n)(h0:∀k,k<n->0<=f k):∃k,k<n/\0<f k:=by
 by_cases hx:∃k,k<n/\0<f k
 .exact hx
 .have:aq f n=0:=zi fun k hk=>by
   have h1:=h0 k hk;have h2:¬0<f k:=fun h=>hx ⟨k,hk,h⟩;grind
  rw[this]at h;exact absurd h bM
structure Crv (n:Nat) (S M:Nat->Rat):Prop where
 asc:∀k,k+1<n->S k<S (k+1)
 nn:∀k,k<n->0<=M k
def kR (n:Nat)(S M:Nat->Rat)(y:Rat):Rat:=aq (fU S M y) n
def o_ (S M:Nat->Rat)(p:Nat):Rat:=aq (fun k=>(M k-cE M k)*S k) p
def InL (n:Nat)(S:Nat->Rat)(p:Nat)(y:Rat):Prop:=p<=n/\(∀k,p=k+1->S k<y)/\(p<n->y<=S p)
def I_ (n:Nat)(S:Nat->Rat)(p:Nat)(y:Rat):Prop:=p<=n/\(∀k,p=k+1->S k<=y)/\(p<n->y<=S p)
section
variable {n:Nat}{S M:Nat->Rat}{y:Rat}{p:Nat}
theorem InL.c (h:InL n S p y):I_ n S p y:=⟨h.1,fun k hk=>by have:=h.2.1 k hk;grind,h.2.2⟩
theorem Crv.mono_st (h:Crv n S M):∀ {j i:Nat},i<=j->j<n->S i<=S j
 |0,i,h1,_=>by
  have:i=0:=J;subst this;exact ez
 |j+1,i,h1,h2=>by
  by_cases he:i=j+1
  .subst he;exact ez
  .have:=h.mono_st (j:=j) (i:=i) J J;have:=h.asc j J;grind
theorem InL.some (h:Crv n S M)(y:Rat):∀(m:Nat),m<=n->∃p,p<=m/\(∀k,p=k+1->S k<y)/\(p<m->y<=S p)
 |0,_=>⟨0,a_,fun k hk=>by omega,fun hk=>by omega⟩
 |m+1,hm=>by
  by_cases hy:S m<y
  .exact⟨m+1,a_,fun k hk=>by
    have:k=m:=J
    subst this;exact hy,fun hk=>by omega⟩
  .obtain⟨p,h1,h2,h3⟩:=InL.some h y m J;refine⟨p,J,h2,fun _=>?_⟩;by_cases hp:p<m
   .exact h3 hp
   .have:p=m:=J;subst this;grind
theorem InL.get (h:Crv n S M)(y:Rat):∃p,InL n S p y:=InL.some h y n (a_)
theorem yG:∀(p:Nat),aq (fun k=>(M k-cE M k)*(y-S k)) p=cE M p*y-o_ S M p
 |0=>by rw[aq,o_,aq,cE];grind
 |p+1=>by rw[aq,yG p,o_,o_,aq,cE];grind
theorem tp (h:Crv n S M)(hp:I_ n S p y):kR n S M y=cE M p*y-o_ S M p:=by
 obtain⟨h1,h2,h3⟩:=hp;rw[<-yG,kR];have key:∀m,p+m<=n->aq (fU S M y) (p+m)=aq (fun k=>(M k-cE M k)*(y-S k)) p:=by
  intro m
  induction m with
  |zero =>
   intro _;refine eF fun k hk=>?_;have:S k<=y:=by
    cases p with
    |zero=>omega
    |succ p =>
     have:=h2 p O;have:=h.mono_st (i:=k) (j:=p) J J;grind
   rw[fU,if_neg bM]
  |succ m ih =>
   intro hm;rw[Nat.add_succ,aq,ih J,fU];have h4:=h3 J;have h5:=h.mono_st (i:=p) (j:=p+m) J J;split
   .grind
   .have:y-S (p+m)=0:=bM;rw[this];grind
 have:=key (n-p) J;rwa [show p+(n-p)=n by omega]at this
theorem Ji (h:Crv n S M)(hp:p<=n):0<=cE M p:=by
 cases p with
 |zero=>rw[cE];exact ez
 |succ p=>exact h.nn p J
theorem Ny (x:Rat):0<=gl x:=by rw[gl];grind
theorem Id {x z:Rat}(h:x<=z):gl x<=gl z:=by simp only[gl];grind
theorem QS (h:Crv n S M):0<=kR n S M y:=by
 rw[kR,kJ h.asc];refine lp fun k hk=>?_;rw[dj];exact ka (h.nn k hk) (Ny _)
theorem rY (h:Crv n S M){x z:Rat}(hx:x<=z):kR n S M x<=kR n S M z:=by
 rw[kR,kR,kJ h.asc,kJ h.asc];refine u_ fun k hk=>?_;rw[dj,dj];refine FX (Id ?_) (h.nn k hk);have:jk S n x k<=jk S n z k:=by
  simp only[jk,wI];grind
 grind
def xU (n:Nat)(S M:Nat->Rat):Rat:=o_ S M n*(-1)
theorem xL (h:Crv n S M)(hl:I_ n S n y)(h0:cE M n=0):kR n S M y=xU n S M:=by
 rw[tp h hl,h0,xU];grind
theorem IQ (h:Crv n S M)(hl:I_ n S 0 y):kR n S M y=0:=by
 rw[tp h hl,cE,o_,aq];grind
end
structure Bd where
 N:Nat
 X:Nat->Rat
 C:Nat->Rat
 n:Nat->Nat
 S:Nat->Nat->Rat
 M:Nat->Nat->Rat
 w:Rat
 A:Rat
structure Bd.Ok (b:Bd):Prop where
 crv:∀i,i<b.N->Crv (b.n i) (b.S i) (b.M i)
 pos:0<b.w
namespace Bd
variable {b:Bd}
def y (b:Bd)(z t:Rat)(i:Nat):Rat:=b.C i+(z+t*b.X i)
def f (b:Bd)(z t:Rat)(i:Nat):Rat:=kR (b.n i) (b.S i) (b.M i) (b.y z t i)
def F (b:Bd)(z t:Rat):Rat:=aq (b.f z t) b.N
def G0 (b:Bd)(z t:Rat):Rat:=aq (fun i=>b.f z t i*b.X i) b.N
def e (b:Bd)(z t:Rat):Rat:=b.G0 z t-b.w*b.A
def Least (b:Bd)(z t:Rat):Prop:=b.F z t=b.w/\∀z',z'<z->b.F z' t<b.w
def Bal (b:Bd)(z t:Rat):Prop:=b.F z t=b.w/\b.G0 z t=b.w*b.A
theorem PT (h:b.Ok){z z' t:Rat}(hz:z<=z'){i:Nat}(hi:i<b.N):b.f z t i<=b.f z' t i:=rY (h.crv i hi) (by rw[y,y];grind)
theorem Pt (h:b.Ok){z z' t:Rat}(hz:z<=z'):b.F z t<=b.F z' t:=u_ fun _ hi=>PT h hz hi
theorem f_nn (h:b.Ok){z t:Rat}{i:Nat}(hi:i<b.N):0<=b.f z t i:=QS (h.crv i hi)
theorem Ml (h:b.Ok)(z t z' t':Rat){i:Nat}(hi:i<b.N):0<=(b.f z t i-b.f z' t' i)*(b.y z t i-b.y z' t' i):=by
 have hc:=h.crv i hi;by_cases hy:b.y z t i<=b.y z' t' i
 .have h1:=rY hc hy;have:(b.f z t i-b.f z' t' i)*(b.y z t i-b.y z' t' i)=(b.f z' t' i-b.f z t i)*(b.y z' t' i-b.y z t i):=bM;rw[this];exact Rat.mul_nonneg (by rw[f,f];grind) bM
 .have h1:=rY hc (x:=b.y z' t' i) (z:=b.y z t i) bM;exact Rat.mul_nonneg (by rw[f,f];grind) bM
theorem Oh (b:Bd)(z t z' t':Rat):aq (fun i=>(b.f z t i-b.f z' t' i)*(b.y z t i-b.y z' t' i)) b.N=(b.F z t-b.F z' t')*(z-z')+(b.G0 z t-b.G0 z' t')*(t-t'):=by
 have key:∀n,aq (fun i=>(b.f z t i-b.f z' t' i)*(b.y z t i-b.y z' t' i)) n=(aq (b.f z t) n-aq (b.f z' t') n)*(z-z')+(aq (fun i=>b.f z t i*b.X i) n-aq (fun i=>b.f z' t' i*b.X i) n)*(t-t'):=by
  intro n
  induction n with
  |zero=>simp only[aq];grind
  |succ n ih =>
   simp only[aq];rw[ih,y,y];grind
 exact key b.N
theorem Da (h:b.Ok){z t z' t':Rat}(hF:b.F z t=b.F z' t')(hG:b.G0 z t=b.G0 z' t'\/t=t'){i:Nat}(hi:i<b.N):b.f z t i=b.f z' t' i:=by
 have h0:aq (fun i=>(b.f z t i-b.f z' t' i)*(b.y z t i-b.y z' t' i)) b.N=0:=by
  rw[Oh,hF];rcases hG with hG|ht
  .rw[hG];grind
  .rw[ht];grind
 have h1:=rT (f:=fun i=>(b.f z t i-b.f z' t' i)*(b.y z t i-b.y z' t' i)) (n:=b.N) (i:=i) (fun k hk=>Ml h z t z' t' hk) hi;rw[h0]at h1;have h2:=Ml h z t z' t' hi;have h3:(b.f z t i-b.f z' t' i)*(b.y z t i-b.y z' t' i)=0:=bM;rcases Rat.mul_eq_zero.1 h3 with h4|h4
 .grind
 .rw[f,f,show b.y z t i=b.y z' t' i by grind]
theorem Lw (h:b.Ok){z t z':Rat}(hF:b.F z t=b.F z' t):b.G0 z t=b.G0 z' t:=eF fun i hi=>by rw[Da h hF (.inr O) hi]
def Inl (b:Bd)(p:Nat->Nat)(z t:Rat):Prop:=∀i,i<b.N->InL (b.n i) (b.S i) (p i) (b.y z t i)
def Inc (b:Bd)(p:Nat->Nat)(z t:Rat):Prop:=∀i,i<b.N->I_ (b.n i) (b.S i) (p i) (b.y z t i)
def k (b:Bd)(p:Nat->Nat)(i:Nat):Rat:=cE (b.M i) (p i)
def o (b:Bd)(p:Nat->Nat)(i:Nat):Rat:=o_ (b.S i) (b.M i) (p i)
def Kh (b:Bd)(p:Nat->Nat):Rat:=aq (b.k p) b.N
def Kc (b:Bd)(p:Nat->Nat):Rat:=aq (fun i=>b.k p i*b.X i) b.N
def Kp (b:Bd)(p:Nat->Nat):Rat:=aq (fun i=>b.k p i*b.X i*b.X i) b.N
def Fo (b:Bd)(p:Nat->Nat):Rat:=aq (fun i=>b.k p i*b.C i-b.o p i) b.N
def Go (b:Bd)(p:Nat->Nat):Rat:=aq (fun i=>(b.k p i*b.C i-b.o p i)*b.X i) b.N
theorem Inl.c {p:Nat->Nat}{z t:Rat}(h:b.Inl p z t):b.Inc p z t:=fun i hi=>(h i hi).c
theorem FN (h:b.Ok)(z t:Rat):∃p,b.Inl p z t:=by
 have:=fun i=>dD (i<b.N);refine⟨fun i=>if hi:i<b.N then Classical.choose (InL.get (h.crv i hi) (b.y z t i)) else 0,fun i hi=>?_⟩;simp only[dif_pos hi];exact ut (InL.get (h.crv i hi) (b.y z t i))
theorem f_at (h:b.Ok){p:Nat->Nat}{z t:Rat}(hp:b.Inc p z t){i:Nat}(hi:i<b.N):b.f z t i=b.k p i*b.y z t i-b.o p i:=tp (h.crv i hi) (hp i hi)
theorem F_at (h:b.Ok){p:Nat->Nat}{z t:Rat}(hp:b.Inc p z t):b.F z t=b.Kh p*z+b.Kc p*t+b.Fo p:=by
 rw[F,eF (g:=fun i=>b.k p i*b.y z t i-b.o p i) fun i hi=>f_at h hp hi];have key:∀n,aq (fun i=>b.k p i*b.y z t i-b.o p i) n=aq (b.k p) n*z+aq (fun i=>b.k p i*b.X i) n*t+aq (fun i=>b.k p i*b.C i-b.o p i) n:=by
  intro n
  induction n with
  |zero=>simp only[aq];grind
  |succ n ih=>simp only[aq];rw[ih,y];grind
 exact key b.N
theorem G_at (h:b.Ok){p:Nat->Nat}{z t:Rat}(hp:b.Inc p z t):b.G0 z t=b.Kc p*z+b.Kp p*t+b.Go p:=by
 rw[G0,eF (g:=fun i=>(b.k p i*b.y z t i-b.o p i)*b.X i) fun i hi=>by rw[f_at h hp hi]];have key:∀n,aq (fun i=>(b.k p i*b.y z t i-b.o p i)*b.X i) n=aq (fun i=>b.k p i*b.X i) n*z+aq (fun i=>b.k p i*b.X i*b.X i) n*t+aq (fun i=>(b.k p i*b.C i-b.o p i)*b.X i) n:=by
  intro n
  induction n with
  |zero=>simp only[aq];grind
  |succ n ih=>simp only[aq];rw[ih,y];grind
 exact key b.N
theorem P7 (h:b.Ok){p:Nat->Nat}{z t:Rat}(hp:b.Inc p z t){i:Nat}(hi:i<b.N):0<=b.k p i:=Ji (h.crv i hi) (hp i hi).1
theorem HC {p:Nat->Nat}{z t:Rat}(hp:b.Inl p z t):∃d,0<d/\∀d',0<=d'->d'<=d->b.Inl p (z-d') t:=by
 have key:∀m,m<=b.N->∃d:Rat,0<d/\∀d',0<=d'->d'<=d->∀i,i<m->InL (b.n i) (b.S i) (p i) (b.y (z-d') t i):=by
  intro m
  induction m with
  |zero=>exact fun _=>⟨1,Y,fun _ _ _ i hi=>by omega⟩
  |succ m ih =>
   intro hm;obtain⟨d,h1,h2⟩:=ih J;obtain⟨g1,g2,g3⟩:=hp m J;obtain⟨d2,h3,h4⟩:∃d2:Rat,0<d2/\∀k,p m=k+1->b.S m k<b.y z t m-d2:=by
    cases hpm:p m with
    |zero=>exact⟨1,Y,fun k hk=>by omega⟩
    |succ k =>
     have:=g2 k hpm;refine⟨(b.y z t m-b.S m k)/2,bM,fun k' hk'=>?_⟩;obtain rfl:k=k':=J;grind
   refine⟨wI d d2,by rw[wI];grind,fun d' h5 h6 i hi=>?_⟩;have h7:d'<=d/\d'<=d2:=by rw[wI]at h6;grind
   by_cases he:i<m
   .exact h2 d' h5 h7.1 i he
   .obtain rfl:i=m:=J;have hy:b.y (z-d') t i=b.y z t i-d':=by rw[y,y];grind
    refine⟨g1,fun k hk=>?_,fun hk=>?_⟩
    .have:=h4 k hk;rw[hy];grind
    .have:=g3 hk;rw[hy];grind
 obtain⟨d,h1,h2⟩:=key b.N (a_);exact⟨d,h1,fun d' h3 h4 i hi=>h2 d' h3 h4 i hi⟩
theorem Least.K (h:b.Ok){p:Nat->Nat}{z t:Rat}(hl:b.Least z t)(hp:b.Inl p z t):0<b.Kh p:=by
 obtain⟨d,h1,h2⟩:=HC hp;have h3:=F_at h hp.c;have h4:=F_at h (h2 d bM ez).c;have h5:=hl.2 (z-d) bM;rw[h4]at h5;rw[hl.1]at h3;have h6:0<b.Kh p*d:=bM;have h7:0<=b.Kh p:=lp fun i hi=>P7 h hp.c hi;by_cases h8:b.Kh p=0
 .rw[h8]at h6;grind
 .grind
theorem Least.uniq {z z' t:Rat}(h1:b.Least z t)(h2:b.Least z' t):z=z':=by
 rcases dD (z<z') with hc|hc
 .have:=h2.2 z hc;rw[h1.1]at this;grind
 .rcases dD (z'<z) with hd|hd
  .have:=h1.2 z' hd;rw[h2.1]at this;grind
  .grind
def ln (b:Bd)(p:Nat->Nat)(t:Rat):Rat:=(b.w-b.Fo p-b.Kc p*t)/b.Kh p
theorem ln_at (h:b.Ok){p:Nat->Nat}{z t:Rat}(hF:b.F z t=b.w)(hp:b.Inc p z t)(hK:0<b.Kh p):z=b.ln p t:=by
 have h1:=F_at h hp;rw[hF]at h1;have hne:b.Kh p≠0:=bM;rw[ln];grind
theorem Mw (h:b.Ok){p:Nat->Nat}{t:Rat}(hp:b.Inc p (b.ln p t) t)(hK:0<b.Kh p):b.F (b.ln p t) t=b.w:=by
 have hne:b.Kh p≠0:=bM;rw[F_at h hp,ln];grind
def eln (b:Bd)(p:Nat->Nat)(t:Rat):Rat:=b.Kc p*b.ln p t+b.Kp p*t+b.Go p-b.w*b.A
theorem JG (h:b.Ok){p:Nat->Nat}{t:Rat}(hp:b.Inc p (b.ln p t) t):b.e (b.ln p t) t=b.eln p t:=by rw[e,G_at h hp,eln]
end Bd
structure CR where
 S:List Int
 M:List RR
structure SR where
 x:Int
 c:RR
 k:CR
structure BR where
 w:Int
 a:RR
 l:List SR
def eN (z:Int):List PV:=[I z]
def eC (c:CR):List PV:=[.sl (c.S.map eN),.sl (c.M.map eR)]
def eS (s:SR):List PV:=I s.x::(eR s.c++eC s.k)
def eB (b:BR):List PV:=I b.w::(eR b.a++[.sl (b.l.map eS)])
def RR.sz (x:RR)(n:Nat):Prop:=x.n.l.length<=n/\x.d.l.length<=n
theorem RR.sz.v {x:RR}{n:Nat}(h:x.sz n):Vq x x.val n:=Vq.raw h.1 h.2
def i64 (z:Int):Prop := -9223372036854775808<=z/\z<=9223372036854775807
structure CR.Lim (c:CR):Prop where
 s:∀z∈c.S,i64 z
 m:∀x∈c.M,x.sz 12
 ls:c.S.length<=1000000000
 lm:c.M.length<=1000000000
theorem cX (p:Rat):sgn p<0↔p<0:=by unfold sgn;split<;>(try split)<;>simp_all<;>omega
theorem gy (p:Rat):sgn p=0↔p=0:=by
 unfold sgn;split
 .rename_i h;constructor
  .intro h1;omega
  .intro h1;subst h1;grind
 .split<;>simp_all
theorem fP (p:Rat):0<sgn p↔0<p:=by
 unfold sgn;split
 .rename_i h;constructor
  .intro h1;omega
  .intro h1;grind
 .rename_i h;split
  .rename_i h1;subst h1;simp
  .constructor
   .intro _;grind
   .intro _;omega
theorem Lz (p:Rat):0<=sgn p↔0<=p:=by
 have h1:=cX p;constructor
 .intro h;have:¬p<0:=fun h2=>by have:=h1.2 h2;omega
  grind
 .intro h;have:¬sgn p<0:=fun h2=>by have:=h1.1 h2;grind
  omega
theorem nU (p:Rat):sgn p<=0↔p<=0:=by
 have h1:=fP p;constructor
 .intro h;have:¬0<p:=fun h2=>by have:=h1.2 h2;omega
  grind
 .intro h;have:¬0<sgn p:=fun h2=>by have:=h1.1 h2;grind
  omega
def j2 (c:CR)(i:Nat):Int :=
 if c.S.getD i 0 < -10000000\/10000000<c.S.getD i 0\/(c.M.getD i RR.zero).val<0 then 2
 else if 0<i/\c.S.getD i 0<=c.S.getD (i-1) 0 then 10 else 0
def iT (c:CR):Nat->Nat->Int
 |_,0=>0
 |i,k+1=>if j2 c i=0 then iT c (i+1) k else j2 c i
def eL (c:CR):Int:=if 40<c.S.length then 8 else if c.M.length≠c.S.length then 11 else iT c 0 c.S.length
theorem bF {α:Type}{l:List α}{i:Nat}{d:α}(h:i<l.length):l[i]? = some (l.getD i d):=by
 rw[cY,bU h];rfl
theorem iS (c:CR)(hc:c.Lim):aO 245 [.agg (eC c)] (I (eL c)):=by
 obtain⟨S,M⟩:=c;obtain⟨hs,hm,hls,hlm⟩:=hc;simp only at hs hm hls hlm;have hSl:(S.map eN).length=S.length:=ao;have hMl:(M.map eR).length=M.length:=ao;generalize hE:eL ⟨S,M⟩=E;simp only[eL]at hE;show aO 245 [.agg [.sl (S.map eN),.sl (M.map eR)]] (I E);refine ax Proofs.Tryz.func245 ?_;refine D ?_ ?_<;>intro h
 .have h1:=aB h;rw[if_pos J]at hE;subst hE;exact co
 have h40:¬40<S.length:=by have h1:=aE h;omega
 rw[if_neg h40]at hE;clear h;refine D ?_ ?_<;>intro h
 .have h1:M.length≠S.length:=by simp at h;omega
  rw[if_pos h1]at hE;subst hE;exact co
 have hSM:M.length=S.length:=by simp at h;omega
 rw[if_neg J]at hE;clear h;refine H ?_;refine ah (fun i:Nat=>i<=S.length/\iT ⟨S,M⟩ i (S.length-i)=E) (fun i=>[(17,.sl (S.map eN)),(18,I S.length),(19,I (i:Nat)),(1,.ptr 1 1 0 0)]) (fun _=>[(1,1,⟨134,2,[[.sl (S.map eN),.sl (M.map eR)]],2⟩)]) (fun i=>S.length-i) 0 ⟨aP _,hE⟩ ⟨O,by rw[<-hSl];rfl,O,O,O,trivial⟩ ?_;intro i s ⟨hi,hF⟩;refine D ?_ ?_<;>intro h
 .have hlt:i<S.length:=by have:=aB h;omega
  clear h;obtain⟨k,hk⟩:∃k,S.length-i=k+1:=⟨S.length-i-1,J⟩;rw[hk,iT]at hF;have hx:=bF (d:=0) hlt;have hmx:=bF (l:=M) (i:=i) (d:=RR.zero) J;have hse:j2 ⟨S,M⟩ i=j2 ⟨S,M⟩ i:=O
  conv at hse=>rhs;rw[j2]
  simp only at hse;generalize j2 ⟨S,M⟩ i=se at *
  have hxb:=hs _ (bm hx);have hmv:=(hm _ (bm hmx)).v;have hsg:=Pf (M.getD i RR.zero) (hx:=hmv) Y;have hsl:=cX (M.getD i RR.zero).val;generalize hx0:S.getD i 0=x at *
  generalize M.getD i RR.zero=m at *
  generalize sgn m.val=sg at *
  refine aQ hx ?_;refine eW ?_ ?_<;>intro h
  .have h1:=aB h;clear h;have hS2:se=2:=by rw[hse,if_pos (.inl h1)]
   rw[hS2,if_neg Y]at hF;subst hF;exact co
  .have h1:=aE h;clear h;refine eW ?_ ?_<;>intro h
   .have h2:=aB h;clear h;have hS2:se=2:=by rw[hse,if_pos (.inr (.inl h2))]
    rw[hS2,if_neg Y]at hF;subst hF;exact co
   .have h2:=aE h;clear h;refine aQ hmx ?_;refine aj hsg ?_;refine D ?_ ?_<;>intro h
    .have h3:=aB h;clear h;have hS2:se=2:=by rw[hse,if_pos (.inr (.inr (hsl.1 h3)))]
     rw[hS2,if_neg Y]at hF;subst hF;exact co
    .have h3:=aE h;clear h;rw[if_neg (by rw[<-hsl];omega)]at hse;refine eW ?_ ?_<;>intro h
     .have h4:=aB h;clear h;obtain⟨j,rfl⟩:∃j,i=j+1:=⟨i-1,J⟩;have hw1:IntKind.i64.wrap (((j+1:Nat):Int)-1)=((j:Nat):Int):=by rw[wrap_i64 J J];omega
      have hy:=bF (l:=S) (i:=j) (d:=0) J;rw[show j+1-1=j by omega]at hse;generalize S.getD j 0=y at *
      refine H ?_;rw[hw1];refine tK O O O O O O O hy O ?_;refine D ?_ ?_<;>intro h
      .have h5:=aB h;clear h;have hS2:se=10:=by rw[hse,if_pos ⟨J,h5⟩]
       rw[hS2,if_neg Y]at hF;subst hF;exact co
      .have h5:=aE h;clear h;have hS2:se=0:=by rw[hse,if_neg (fun h=>h5 h.2)]
       rw[if_pos hS2]at hF;have hw:IntKind.i64.wrap (((j+1:Nat):Int)+1)=((j+1+1:Nat):Int):=by rw[wrap_i64 J J];omega
       refine H ?_;exact⟨j+1+1,⟨J,by rw[show S.length-(j+1+1)=k by omega];exact hF⟩,J,O,O,congrArg I hw,O,O,trivial⟩
     .have h4:=aE h;clear h;have hS2:se=0:=by rw[hse,if_neg (fun h=>h4 J)]
      rw[if_pos hS2]at hF;have hw:=fg i;refine H ?_;exact⟨i+1,⟨J,by rw[show S.length-(i+1)=k by omega];exact hF⟩,J,O,O,congrArg I hw,O,O,trivial⟩
 .have hie:i=S.length:=by have:=aE h;omega
  rw[hie,iE,iT]at hF;subst hF;exact co
end Go.Pv
namespace Go.Pv
open Go.RowKit
variable [Globs]
def yh:List (Tmp × PV)->(Nat->PV)->Nat->PV
 |[],f=>f
 |(p,v)::l,f=>yh l fun r=>bif Nat.beq r p then v else f r
theorem yi {E:Env}:∀(ps:List Tmp) (cs:List PV) (vs:List Value) (f:Nat->PV) (tmps:Array Value),ps.length=cs.length->cs.length=vs.length->(∀p∈ps,p<tmps.size)->(∀t,Rep E (f t) (tmps.getD t undef)) ->
  (∀(i:Nat) (c:PV) (v:Value),cs[i]? = some c->vs[i]? = some v->Rep E c v) ->
  ((ps.zip vs).foldl (fun t q=>t.setIfInBounds q.1 q.2) tmps).size=tmps.size/\∀t,Rep E (yh (ps.zip cs) f t) (((ps.zip vs).foldl (fun t q=>t.setIfInBounds q.1 q.2) tmps).getD t undef)
 |[],[],[],f,tmps,_,_,_,hf,_=>⟨rfl,hf⟩
 |p::ps,c::cs,v::vs,f,tmps,h1,h2,hp,hf,hd=>by
  have hp0:p<tmps.size:=hp p (.head _);have ih:=yi ps cs vs (fun r=>bif Nat.beq r p then c else f r) (tmps.setIfInBounds p v) (by simpa using h1) (by simpa using h2) (fun q hq=>by simpa using hp q (.tail _ hq)) (fun t=>by
   by_cases ht:t=p
   .subst ht;have e1:(tmps.setIfInBounds t v).getD t undef=v:=by simp[hp0]
    rw[e1];simpa using hd 0 c v O O
   .have e1:(tmps.setIfInBounds p v).getD t undef=tmps.getD t undef:=by simp[FU (Ne.symm ht)]
    rw[e1,cD ht]
    exact hf t) (fun i c' v' e1 e2=>hd (i+1) c' v' (by simpa using e1) (by simpa using e2))
  refine⟨?_,fun t=>?_⟩
  .rw[Ao,gX,ih.1];simp
  .rw[Ao,Ao,gX];exact ih.2 t
 |[],_::_,_,_,_,h,_,_,_,_=>by simp at h
 |[],[],_::_,_,_,_,h,_,_,_=>by simp at h
 |_::_,[],_,_,_,h,_,_,_,_=>by simp at h
 |_::_,_::_,[],_,_,_,h,_,_,_=>by simp at h
def dN (ps:Array Tmp)(asg body:Code)(st:LoopState)(pend:Option Code)(regs:Nat->PV):Cont:=⟨0,0,[[.lbl ps asg body st pend regs]],4⟩
def G_ (s:St)(kL g:Nat)(ps:Array Tmp)(asg body:Code)(regs:Nat->PV)(d:Nat)(K:St->Prop):Exit->St->Prop
 |.normal,s'=>s'.own kL=(g,some (dN ps asg body .busy none regs))/\K (({ reg:=s.reg,own:=(s'.setOwn kL g (some (dN ps asg body .ready none regs))).own }:St).putR d (.bool true))
 |.exit id,s'=>s'.own kL=(g,some (dN ps asg body .busy none regs))/\K (({ reg:=s.reg,own:=(s'.setOwn kL g (some (dN ps asg body .done (some (.exit id)) regs))).own }:St).putR d (.bool false))
 |.ret,s'=>s'.own kL=(g,some (dN ps asg body .busy none regs))/\K (({ reg:=s.reg,own:=(s'.setOwn kL g (some (dN ps asg body .done (some .ret) regs))).own }:St).putR d (.bool false))
 |_,_=>False
def r_ (s:St)(kL g:Nat)(ps:Array Tmp)(asg body:Code)(Q:Exit->St->Prop):Exit->St->Prop
 |.normal,s' | .ret,s'=>(s'.own kL=(g,some (dN ps asg body .ready none s.reg))/\Q .normal { reg:=s.reg,own:=(s'.setOwn kL (g+1) none).own }) \/
   (∃id,s'.own kL=(g,some (dN ps asg body .done (some (.exit id)) s.reg))/\Q (.exit id) { reg:=s.reg,own:=(s'.setOwn kL (g+1) none).own }) \/
   (s'.own kL=(g,some (dN ps asg body .done (some .ret) s.reg))/\Q .ret { reg:=s.reg,own:=(s'.setOwn kL (g+1) none).own })
 |_,_=>False
section
variable {P:Program}{L:df}{C:Ctx}{γ:Nat->Option Nat}{s:St}{a:Act}{w:World}
theorem Sim.yl_at (_h:Sim C γ s a w){k g:Nat}{c:Cont}{v:Value}(hr:Rep (aD C γ s w) (.yl k g) v)(ho:s.own k=(g,some c)):∃b,γ k=some b/\v = .func (.yield b) #[] #[]:=by
 cases hr with
 |d h=>cases h
 |yl hg hl=>exact(hl (by simp[aD,ho]) ⟨γ k,c.ty,c.sz,c.rows.length⟩ (by simp[aD,ho])).2
theorem Sim.turnLoop {s':St}{a':Act}{w3:World}{C2:Ctx}{γ':Nat->Option Nat}(hs':Sim C2 γ' s' a' w3){kL g b:Nat}{ps:Array Tmp}{asg body:Code}{regs:Nat->PV}{st:LoopState}{pend:Option Code}(ho:s'.own kL=(g,some (dN ps asg body st pend regs)))(hb:γ' kL=some b) :
  ∃rec:Loop,w3.heap[b]? = some (.loop rec)/\rec.state=st/\rec.pending=pend/\∀(st2:LoopState) (pend2:Option Code),Sim C2 γ' (s'.setOwn kL g (some (dN ps asg body st2 pend2 regs))) a' (w3.putObj b (.loop { rec with state:=st2,pending:=pend2 })):=by
 have hit:=(hs'.sites kL _ (by rw[ho])).it b hb O (show(3:Nat)<=4 by decide);obtain⟨rec,regs',h1,h2,h3',h3,h4,h5⟩:vm (aD C2 γ' s' w3) b (dN ps asg body st pend regs).rows:=hit;have h1:w3.heap[b]? = some (.loop rec):=h1;simp only[dN,List.cons.injEq,PV.lbl.injEq,and_true]at h2;obtain⟨e1,e2,e3,e4,e5,e6⟩:=h2;subst e6;refine⟨rec,h1,e4.symm,e5.symm,fun st2 pend2=>?_⟩;obtain⟨hp,hnew⟩:=AV (o' := .loop { rec with state:=st2,pending:=pend2 }) h1;have hnc:∀cur T f,w3.heap[b]? ≠ some (.cells cur T f):=fun cur T f e=>by rw[h1]at e;cases e
 have hle:=Ez (c':=dN ps asg body st2 pend2 regs) hs' ho hb hnc hp O O (a_);refine AW hs' ho hb hnc hp O O (a_) ⟨(fun e=>by cases e),(fun b' _ _ hk=>by simp[dN]at hk),fun b' hb' _ _=>?_,(fun b' _ hz=>by simp[dN]at hz)⟩;cases hb';show vm _ _ _;exact⟨{ rec with state:=st2,pending:=pend2 },regs,hnew,by simp[dN,<-e1,<-e2,<-e3],h3',h3,h4,fun t=>(h5 t).mono hle⟩
theorem LF {o:Oper}{args:Array Operand}{tys:Array TypeId}{tf d kL g:Nat}{ps:Array Tmp}{asg body:Code}{regs:Nat->PV}{K:St->Prop}(ho:o.op = .call ⟨.value (.tmp tf),args,tys⟩)(hd:o.dst=some d)(hy:s.reg tf = .yl kL g)
  (hown:s.own kL=(g,some (dN ps asg body .ready none regs))) (hps:args.size=ps.size)
  (h:PWP P L asg (aF (fun s2=>s2.own kL=(g,some (dN ps asg body .ready none regs))/\PWP P L body (G_ s kL g ps asg body regs d K) { reg:=s2.reg,own:=(s2.setOwn kL g (some (dN ps asg body .busy none regs))).own }) (fun _ _=>False)) { reg:=yh (ps.toList.zip (args.toList.map s.ev)) regs,own:=s.own }):Sv P L s o K:=by
 intro ro n C a w Q hG ⟨γ,hs⟩ hN hQ;have hyr:=hs.ev (.tmp tf);rw[show s.ev (.tmp tf) = .yl kL g from hy]at hyr;obtain⟨b,hb,hv⟩:=hs.yl_at hyr hown;have hit:=(hs.sites kL _ (by rw[hown])).it b hb O (show(3:Nat)<=4 by decide);obtain⟨rec,regs',h1,h2,h3',h3,h4,h5⟩:vm (aD C γ s w) b (dN ps asg body .ready none regs).rows:=hit;have h1:w.heap[b]? = some (.loop rec):=h1;simp only[dN,List.cons.injEq,PV.lbl.injEq,and_true]at h2;obtain⟨e1,e2,e3,e4,e5,e6⟩:=h2;subst e6;refine⟨fun _ _=>trivial,?_⟩;have hexec:(o.semAt (Fr ro).round a.eval).run P w = .ok (.round b rec.fn ((rec.params.zip (args.map a.eval)).foldl (fun tmps (t,a)=>tmps.setIfInBounds t a) rec.tmps) rec.assign rec.body) w:=by
  rw[Oper.semAt_eq _ _ _ (fun c e=>by rw[ho]at e;cases e)];simp only[execOp,ho,resolve,hv,Deferred.ofValue,Sem.run_bind,Sem.run_pure,Result.andThen_ok,invoke];rw[show(#[]++args.map a.eval:Array Value)=args.map a.eval by simp];exact run_yield h1 (by rw[<-e1];simpa using hps)
 rw[hexec,Oper.uponIn_round];refine⟨fun e=>by simp[Fr,Fence.wide]at e,?_⟩;refine roundIn_of_wpIn trivial ?_;rw[<-e2,<-e3];rw[<-e2]at h3';rw[<-e3]at h3;let C2:Ctx:=⟨C.B,C.X,C.w0,rec.tmps.size,fun c v=>C.keep c v\/∃t,c=s.reg t/\v=a.tmps.getD t undef,[]⟩;have hG2:Good P L C2:=⟨hG.lay,hG.x,hG.mixed,hG.glob⟩;have hfold:(rec.params.zip (args.map a.eval)).foldl (fun tmps (t,a)=>tmps.setIfInBounds t a) rec.tmps=(ps.toList.zip (args.toList.map a.eval)).foldl (fun t q=>t.setIfInBounds q.1 q.2) rec.tmps:=by
  rw[<-e1,<-Array.foldl_toList,Array.toList_zip,Av]
 obtain⟨b1,b2⟩:=yi (E:=aD C γ s w) ps.toList (args.toList.map s.ev) (args.toList.map a.eval) regs rec.tmps (by simpa using hps.symm) ao
  (fun p hp=>by rw[e1]at hp;simpa using cm.1 h4 p hp) (fun t=>h5 t) (fun i c v q1 q2=>by
   rw[bD]at q1 q2;cases hx:args.toList[i]? with
   |none=>rw[hx]at q1;simp at q1
   |some x=>rw[hx]at q1 q2;simp at q1 q2;subst q1;subst q2;exact hs.ev x)
 rw[hfold];have hsim2:SimE C2 { reg:=yh (ps.toList.zip (args.toList.map s.ev)) regs,own:=s.own } { tmps:=(ps.toList.zip (args.toList.map a.eval)).foldl (fun t q=>t.setIfInBounds q.1 q.2) rec.tmps,defers:=[] } w:=by
  refine⟨γ,O,b1,b2,hs.sites,hs.inj,hs.base,hs.below,hs.top,?_⟩;rintro c v (hk|⟨t,rfl,rfl⟩)
  .exact hs.kept c v hk
  .exact hs.regs t
 rw[JQ];refine wpIn_mono (PWP.soundX (X:=fun A B=>A=B) (fun _=>rfl) (fun h k=>h.trans k) (fun h=>by subst h;exact .refl _) (r:=false) (fun h=>by cases h) asg _ C2 _ _ _ hG2 h3' (fun _ hq=>hq) hsim2 h) ?_;rintro e aA wA ⟨C',sA,rfl,⟨γA,hsA⟩,hq⟩;have he:e = .normal:=by
  cases e
  case normal=>rfl
  all_goals exact absurd hq id
 subst he;obtain⟨hownA,hbodyA⟩:=hq;show ∃w₂,_;have hkyA:=hsA.kept (.yl kL g) (.func (.yield b) #[] #[]) (.inr ⟨tf,hy.symm,hv.symm⟩);obtain⟨bA,hbA,hvA⟩:=hsA.yl_at hkyA hownA;have hbb:b=bA:=by injection hvA with q;injection q with q
 subst hbb;obtain⟨rec2,r1,r2,r3,r4⟩:=hsA.turnLoop hownA hbA;have hs1:=r4 .busy none;have hw2:wA.putObj b (.loop { rec2 with state := .busy,pending:=none })=wA.putObj b (.loop { rec2 with state := .busy }):=by
  have:({ rec2 with state := .busy,pending:=none }:Loop)={ rec2 with state := .busy }:=by rw[<-r3]
  rw[this]
 rw[hw2]at hs1;refine⟨_,run_beginRound r1 r2,?_⟩;have hsimB:SimE C2 { reg:=sA.reg,own:=(sA.setOwn kL g (some (dN ps asg body .busy none regs))).own } aA (wA.putObj b (.loop { rec2 with state := .busy })):=⟨γA,hs1⟩;refine wpIn_mono (PWP.soundX (X:=fun A B=>A=B) (fun _=>rfl) (fun h k=>h.trans k) (fun h=>by subst h;exact .refl _) (r:=false) (fun h=>by cases h) body _ C2 _ _ _ hG2 h3 (fun _ hq=>hq) hsimB hbodyA) ?_
 have fin:∀ {s':St} {a':Act} {w3:World} (jump:Option Code) (st:LoopState),st=(if jump.isNone then .ready else .done)->SimE C2 s' a' w3->s'.own kL=(g,some (dN ps asg body .busy none regs)) ->
   K (({ reg:=s.reg,own:=(s'.setOwn kL g (some (dN ps asg body st jump regs))).own }:St).putR d (.bool jump.isNone)) ->
   ∃v w4,(Instr.endRound b jump).run P w3 = .ok v w4/\∃s'',SimE C s'' (a.put o.dst v) w4/\K s'':=by
  rintro s' a' w3 jump st rfl ⟨γ',hs'⟩ hown' hk;have hky:=hs'.kept (.yl kL g) (.func (.yield b) #[] #[]) (.inr ⟨tf,hy.symm,hv.symm⟩);obtain⟨b',hb',hvb⟩:=hs'.yl_at hky hown';have hbb:b'=b:=by injection hvb with q;injection q with q;exact q.symm
  subst hbb;obtain⟨rec3,q1,q2,q3,q4⟩:=hs'.turnLoop hown' hb';have hs4:=q4 (if jump.isNone then .ready else .done) jump;refine⟨_,_,run_endRound jump q1,_,⟨γ',?_⟩,hk⟩;have hback:Sim C γ' { reg:=s.reg,own:=(s'.setOwn kL g (some (dN ps asg body (if jump.isNone then .ready else .done) jump regs))).own } a (w3.putObj b' (.loop { rec3 with state:=if jump.isNone then .ready else .done,pending:=jump })) :=
   ⟨hs.defers,hs.size,fun r=>hs4.kept _ _ (.inr ⟨r,O,O⟩),hs4.sites,hs4.inj,hs4.base,hs4.below,hs4.top,fun c v hk=>hs4.kept c v (.inl hk)⟩
  rw[hd];rw[hd]at hN;exact hback.put (d:=some d) hN (.d (.bool _))
 rintro e a' w3 ⟨C',s',rfl,h',hq⟩;cases e
 case normal=>exact fin none .ready O h' hq.1 hq.2
 case ret=>exact fin (some .ret) .done O h' hq.1 hq.2
 case exit id=>exact fin (some (.exit id)) .done O h' hq.1 hq.2
 all_goals exact hq.elim
theorem CP {Q:Exit->St->Prop}{g:Operand}{ps:Array Tmp}{assign body:Code}(h:DI P L g ps assign body Q s):PWP P L (.rangeFunc g ps assign body) Q s:=Gh.of h
theorem yR {Q:Exit->St->Prop}{g:Operand}{gf:FuncId}{caps:List PV}{fn:Func}{bodyI:Code}{ps:Array Tmp}{asg body:Code}(kL:Nat){gn:Nat}{oc:Option Cont}(hg:s.ev g = .clo gf caps)(hf:P.funcs[gf]? = some fn)(hb:fn.body=some bodyI)
  (hn : (fn.name == "runtime.NumGoroutine") = false) (hlen : Nat.ble (1 + caps.length) fn.ntmps = true) (hc : nB fn.ntmps bodyI = true) (hres : fn.results = #[]) (hown : s.own kL = (gn, oc))
  (h:PWP P L bodyI (r_ s kL (gn+1) ps asg body Q) { reg:=fun t=>((.yl kL (gn+1))::caps).getD t (.raw undef),own:=(s.setOwn kL (gn+1) (some (dN ps asg body .ready none s.reg))).own }):DI P L g ps asg body Q s:=by
 intro n C a w hG ⟨γ,hs⟩ hcode hQ;simp only[j1,io,ca]at hcode;obtain⟨⟨hpsN,hasg⟩,hbody⟩:=hcode;refine wpIn_rangeFunc fun fnid _=>?_;have hge:=hs.ev g;rw[hg]at hge;obtain⟨vs,hv,hl,hd⟩:=hge.clo_inv;have hcal:jQ P gf:=⟨fn,hf,hn,by simp[hb]⟩;obtain⟨rec,hrec⟩:∃rec:Loop,rec={ state := .ready,pending:=none,fn:=fnid,tmps:=a.tmps,params:=ps,assign:=asg,body:=body,defers:=w.heap.size }:=⟨_,O⟩;refine⟨w.heap.size+1,[Ek w.heap.size],(w.alloc (.deferred (some []))).alloc (.loop rec),{ target := .fn (.func gf) vs.toArray,args:=#[.func (.yield (w.heap.size+1)) #[] #[]] },(w.alloc (.deferred (some []))).alloc (.loop rec),gf,
  #[Value.func (.yield (w.heap.size+1)) #[] #[]]++vs.toArray,(w.alloc (.deferred (some []))).alloc (.loop rec),by rw[hrec];exact run_enterLoop_outer _ _ _ _ _,?_,fun _ _=>trivial,?_,fun e=>by simp[Fr,Fence.wide]at e,?_⟩
 .simp only[resolve,hv];simp[go_sem]
 .simp only[invoke];exact rN hcal _
 refine callsIn_of_wp hf hb trivial ?_;have hbel:Below w.heap.size w (w.alloc (.deferred (some []))):=(Below.refl _ w).alloc (a_) _;have hD:=hs.ext hbel;have hsz:(w.alloc (.deferred (some []))).heap.size=w.heap.size+1:=ao;have hT:Turn C γ s (w.alloc (.deferred (some []))) ((w.alloc (.deferred (some []))).alloc (.loop rec)) kL (some (w.alloc (.deferred (some []))).heap.size):=Turn.alloc _ kL;have hle:=hT.le hD (dN ps asg body .ready none s.reg);have hfin:s.fin kL (dN ps asg body .ready none s.reg)=s.setOwn kL (gn+1) (some (dN ps asg body .ready none s.reg)):=by rw[St.fin,hown]
 have hs1:=hT.sim (c:=dN ps asg body .ready none s.reg) hD ⟨(fun e=>by cases e),(fun b' _ _ hk=>by simp[dN]at hk),fun b' hb' _ _=>by
  cases hb';show vm _ _ _;refine⟨rec,s.reg,ct _ _,by rw[hrec];rfl,by rw[hrec];simpa [hs.size] using hasg,by rw[hrec];simpa [hs.size] using hbody,by rw[hrec];simpa [hs.size] using hpsN,fun t=>?_⟩
  rw[show rec.tmps=a.tmps by rw[hrec]];exact(hD.regs t).mono hle,(fun b' _ hz=>by simp[dN]at hz)⟩
 rw[hfin,hsz]at hs1;rw[hfin,hsz]at hle;have hDobj:((w.alloc (.deferred (some []))).alloc (.loop rec)).heap[w.heap.size]? = some (.deferred (some [])):=by
  rw[Below.heap_alloc _ _ _ ao];exact ct w _
 have hDok:jY C (nq γ kL (some (w.heap.size+1))) (s.setOwn kL (gn+1) (some (dN ps asg body .ready none s.reg))) ((w.alloc (.deferred (some []))).alloc (.loop rec)) w.heap.size:=by
  refine⟨by simp;omega,fun hx=>?_,fun k c hk hb'=>?_⟩
  .have:=hG.x _ hx;have:=hs.top;omega
  .by_cases hkk:k=kL
   .subst hkk;rw[dq]at hb';injection hb' with q;omega
   .rw[aN hkk]at hk;rw[j0 hkk]at hb';have:=(hs.base k c _ hk hb').2;omega
 let C1:Ctx:=⟨C.B,C.X,C.w0,fn.ntmps,fun c v=>C.keep c v\/(∃t,c=s.reg t/\v=a.tmps.getD t undef)\/(c = .dfd/\v = .pointer (some ⟨w.heap.size,0,none⟩))\/(c = .yl kL (gn+1)/\v = .func (.yield (w.heap.size+1)) #[] #[]),[]⟩;have hG1:Good P L C1:=⟨hG.lay,hG.x,hG.mixed,hG.glob⟩;have hyl:Rep (aD C (nq γ kL (some (w.heap.size+1))) (s.setOwn kL (gn+1) (some (dN ps asg body .ready none s.reg))) ((w.alloc (.deferred (some []))).alloc (.loop rec))) (.yl kL (gn+1)) (.func (.yield (w.heap.size+1)) #[] #[]):=by
  refine .yl (by simp[aD,ar]) fun _ l hl=>?_;simp only[aD,ar,dq,c9,bg]at hl;subst hl;exact⟨O,_,O,O⟩
 have hlen':1+vs.length<=fn.ntmps:=by rw[<-hl];simpa using hlen
 have hargs:∀t,Rep (aD C (nq γ kL (some (w.heap.size+1))) (s.setOwn kL (gn+1) (some (dN ps asg body .ready none s.reg))) ((w.alloc (.deferred (some []))).alloc (.loop rec))) (((.yl kL (gn+1))::caps).getD t (.raw undef))
   ((#[Value.func (.yield (w.heap.size+1)) #[] #[]]++vs.toArray++Array.replicate (fn.ntmps-(#[Value.func (.yield (w.heap.size+1)) #[] #[]]++vs.toArray).size) undef).getD t undef):=by
  intro t;cases t with
  |zero =>
   have e2:(#[Value.func (.yield (w.heap.size+1)) #[] #[]]++vs.toArray++Array.replicate (fn.ntmps-(#[Value.func (.yield (w.heap.size+1)) #[] #[]]++vs.toArray).size) undef).getD 0 undef=Value.func (.yield (w.heap.size+1)) #[] #[]:=by
    simp[Array.getElem?_append]
   rw[e2];exact hyl
  |succ t =>
   rcases bG t vs.length with hlt|hge
   .have hlt':t<caps.length:=J;have e1:((PV.yl kL (gn+1))::caps).getD (t+1) (.raw undef)=caps[t]:=by simp[hlt']
    have e2:(#[Value.func (.yield (w.heap.size+1)) #[] #[]]++vs.toArray++Array.replicate (fn.ntmps-(#[Value.func (.yield (w.heap.size+1)) #[] #[]]++vs.toArray).size) undef).getD (t+1) undef=vs[t]:=by
     rw[lD,rh aV,sH ao];simp[hlt]
    rw[e1,e2];exact(hd t caps[t] vs[t] (bU hlt') (bU hlt)).mono ((lS hbel hs.base).trans' hle)
   .have e1:((PV.yl kL (gn+1))::caps).getD (t+1) (.raw undef) = .raw undef:=by simp[fi (by omega:caps.length<=t)]
    have e2:(#[Value.func (.yield (w.heap.size+1)) #[] #[]]++vs.toArray++Array.replicate (fn.ntmps-(#[Value.func (.yield (w.heap.size+1)) #[] #[]]++vs.toArray).size) undef).getD (t+1) undef=undef:=by
     rw[lD,sH aV];rcases bG (t+1-(#[Value.func (.yield (w.heap.size+1)) #[] #[]]++vs.toArray).size) (fn.ntmps-(#[Value.func (.yield (w.heap.size+1)) #[] #[]]++vs.toArray).size) with h1|h1
     .rw[ri,if_pos h1];rfl
     .rw[nI (by simpa using h1)];rfl
    rw[e1,e2];exact .d (.raw _)
 have hsim:SimE C1 { reg:=fun t=>((.yl kL (gn+1))::caps).getD t (.raw undef),own:=(s.setOwn kL (gn+1) (some (dN ps asg body .ready none s.reg))).own }
   { tmps:=#[Value.func (.yield (w.heap.size+1)) #[] #[]]++vs.toArray++Array.replicate (fn.ntmps-(#[Value.func (.yield (w.heap.size+1)) #[] #[]]++vs.toArray).size) undef,defers:=[] } ((w.alloc (.deferred (some []))).alloc (.loop rec)):=by
  refine⟨nq γ kL (some (w.heap.size+1)),O,by simp[C1];omega,hargs,hs1.sites,hs1.inj,hs1.base,hs1.below,hs1.top,?_⟩;rintro c v (hk|⟨t,rfl,rfl⟩|⟨rfl,rfl⟩|⟨rfl,rfl⟩)
  .exact hs1.kept c v hk
  .exact hs1.regs t
  .exact .dfd hDok hDobj
  .exact hyl
 refine wpIn_mono (PWP.soundX (X:=fun A B=>A=B) (fun _=>rfl) (fun h k=>h.trans k) (fun h=>by subst h;exact .refl _) (r:=false) (fun h=>by cases h) bodyI _ C1 _ _ _ hG1 hc (fun _ hq=>hq) hsim h) ?_
 have fin:∀ {s':St} {a':Act} {w3:World} (pend:Option Code) (st:LoopState),st ≠ .busy->SimE C1 s' a' w3->s'.own kL=(gn+1,some (dN ps asg body st pend s.reg)) ->
   ∃w4,(Instr.endLoop (w.heap.size+1)).run P w3 = .ok pend w4/\∃C4,Ext C C4/\SimE C4 { reg:=s.reg,own:=(s'.setOwn kL (gn+1+1) none).own } { a with defers:=[Ek w.heap.size]++a.defers } w4:=by
  rintro s' a' w3 pend st hst ⟨γ',hs'⟩ hown';have hky:=hs'.kept (.yl kL (gn+1)) (.func (.yield (w.heap.size+1)) #[] #[]) (.inr (.inr (.inr ⟨O,O⟩)));obtain⟨b',hb',hvb⟩:=hs'.yl_at hky hown';have hbb:b'=w.heap.size+1:=by injection hvb with q;injection q with q;exact q.symm
  subst hbb;obtain⟨rec3,q1,q2,q3,q4⟩:=hs'.turnLoop hown' hb';have hs4:=q4 .exhausted pend;have hw4:w3.putObj (w.heap.size+1) (.loop { rec3 with state := .exhausted,pending:=pend })=w3.putObj (w.heap.size+1) (.loop { rec3 with state := .exhausted }):=by
   have:({ rec3 with state := .exhausted,pending:=pend }:Loop)={ rec3 with state := .exhausted }:=by rw[<-q3]
   rw[this]
  rw[hw4]at hs4;refine⟨_,by rw[<-q3];exact run_endLoop q1 (by rw[q2];exact hst),?_⟩;obtain⟨hs5,_,_⟩:=hs4.drop hG1.x (ar s' kL (gn+1) _);have hoo:((s'.setOwn kL (gn+1) (some (dN ps asg body .exhausted pend s.reg))).setOwn kL (gn+1+1) none).own=(s'.setOwn kL (gn+1+1) none).own:=by
   funext r;by_cases hr:r=kL
   .subst hr;rw[ar,ar]
   .rw[aN hr,aN hr,aN hr]
  have key:∀ow,ow=(s'.setOwn kL (gn+1+1) none).own->Sim C1 γ' { reg:=s'.reg,own:=ow } a' (w3.putObj (w.heap.size+1) (.loop { rec3 with state := .exhausted })) ->
    ∃C4,Ext C C4/\SimE C4 { reg:=s.reg,own:=(s'.setOwn kL (gn+1+1) none).own } { a with defers:=[Ek w.heap.size]++a.defers } (w3.putObj (w.heap.size+1) (.loop { rec3 with state := .exhausted })):=by
   rintro ow rfl hs6;refine⟨⟨C.B,C.X,C.w0,C.N,fun c v=>C.keep c v\/(c = .dfd/\v = .pointer (some ⟨w.heap.size,0,none⟩)),w.heap.size::C.dfs⟩,⟨O,O,O,O,fun c v hk => .inl hk,fun hdk=>⟨?_,?_⟩⟩,γ',?_,hs.size,fun r=>hs6.kept _ _ (.inr (.inl ⟨r,O,O⟩)),hs6.sites,hs6.inj,hs6.base,hs6.below,hs6.top,?_⟩
   .rw[rA];refine⟨fun hm=>?_,hdk.1⟩;have:=hs.kept _ _ (hdk.2 _ hm).2;cases this with
    |d hd=>cases hd
    |dfd h1 _=>exact absurd h1.1 (Nat.lt_irrefl _)
   .intro D0 hDm;rcases cG.1 hDm with rfl|hDm
    .exact⟨hs.top,.inr ⟨O,O⟩⟩
    .exact⟨(hdk.2 D0 hDm).1,.inl (hdk.2 D0 hDm).2⟩
   .show [Ek w.heap.size]++a.defers=_;rw[hs.defers];rfl
   .rintro c v (hk|⟨rfl,rfl⟩)
    .exact hs6.kept c v (.inl hk)
    .exact hs6.kept _ _ (.inr (.inr (.inl ⟨O,O⟩)))
  exact key _ hoo hs5
 have ends:∀ {s':St} {a':Act} {w3:World},SimE C1 s' a' w3->r_ s kL (gn+1) ps asg body Q .ret s'->a'.defers=[]/\∃v,(results fn a'.tmps).run P w3 = .ok v w3 /\
   rangePost (Fr none) n P (w.heap.size+1) (Mq Ext C Q) { a with defers:=[Ek w.heap.size]++a.defers } (.returned v) w3:=by
  intro s' a' w3 h' hq;refine⟨by obtain⟨_,h'⟩:=h';exact h'.defers,.tuple #[],by simp[results,hres],?_⟩;rcases hq with⟨ho,hq⟩|⟨id,ho,hq⟩|⟨ho,hq⟩
  .obtain⟨w4,e1,C4,e2,e3⟩:=fin none .ready ao h' ho;exact⟨none,w4,e1,C4,_,e2,e3,hq⟩
  .obtain⟨w4,e1,C4,e2,e3⟩:=fin (some (.exit id)) .done ao h' ho;exact⟨some (.exit id),w4,e1,wpIn_exit ⟨C4,_,e2,e3,hq⟩⟩
  .obtain⟨w4,e1,C4,e2,e3⟩:=fin (some .ret) .done ao h' ho;exact⟨some .ret,w4,e1,wpIn_ret ⟨C4,_,e2,e3,hq⟩⟩
 rintro e a' w3 ⟨C',s',rfl,h',hq⟩;cases e
 case normal=>exact ends h' hq
 case ret=>exact ends h' hq
 all_goals exact hq.elim
end
end Go.Pv
set_option maxHeartbeats 2000000
namespace Go.Pv
attribute [local irreducible] PWP POps PQuiet PSem aF aw ai ak
open Go.Proofs
def CR.s (c:CR)(k:Nat):Rat:=(c.S.getD k 0:Int)
def CR.m (c:CR)(k:Nat):Rat:=(c.M.getD k RR.zero).val
def MG (c:CR):Nat->RR
 |0=>ofQ ((0:Int):Rat)
 |k+1=>c.M.getD k RR.zero
theorem Co (c:CR)(hc:c.Lim)(k:Nat):Vq (c.M.getD k RR.zero) (c.m k) 12:=by
 refine⟨O,?_⟩;rw[cY];cases h:c.M[k]? with
 |none=>exact⟨aP _,aP _⟩
 |some x=>exact hc.m x (bm h)
theorem yg (c:CR)(hc:c.Lim)(k:Nat):Vq (MG c k) (cE c.m k) 12:=by
 cases k with
 |zero =>
  refine⟨ofQ_val _,?_⟩;have:=(po (HQ.int (z:=0) (h:=⟨Y⟩)).ok).ok;show(ofQ ((0:Int):Rat)).n.l.length<=12/\(ofQ ((0:Int):Rat)).d.l.length<=12;exact⟨by have:=this.1;omega,by have:=this.2;omega⟩
 |succ k=>exact Co c hc k
theorem rP {c:CR}(hc:c.Lim)(k:Nat):i64 (c.S.getD k 0):=by
 rw[cY];cases h:c.S[k]? with
 |none=>exact⟨Y,Y⟩
 |some x=>exact hc.s x (bm h)
def O_ (q0 q2 q3 g4 g7 b4:Nat)(rec x2 x3 x1004:Cont)(before sum:RR):List (Nat × Nat × Cont) :=
 [(2000,q0,rec),(2002,q2,x2),(2003,q3,x3),(4,b4,⟨42,4,[eR before],2⟩),(1004,g4,x1004),(1007,g7,⟨42,4,[eR sum],2⟩)]
theorem fp {s:St}(k:Nat):Ghost s (s.setOwn k ((s.own k).1+2) none):=Ghost.drop O
theorem zQ {L:df}{fn:Func}{K:St->PV->Prop}{s:St}{t:Nat}{v:PV}(h:fn.results.toList=[.tmp t])(h1:s.reg t=v)(hk:K s v):ak L fn K .ret s:=by
 unfold ak;refine⟨[s.reg t],True/\True,by rw[h];rfl,⟨trivial,trivial⟩,?_⟩;rw[h1];exact hk
theorem aT {P:Program}{L:df}{x:Code}{Q:Exit->St->Prop}{s:St}(R:List (Nat × PV))(O0:List (Nat × Nat × Cont))(hf:Fit s R O0)(h:∀s1:St,PWP P L x Q (s1.over R O0)):PWP P L x Q s:=by
 have:=h s;rwa [Fit.over hf]at this
theorem wY {Q:Exit->St->Prop}{a b:Nat}{asg body:Code}{sc:St}(c:CR)(hc:c.Lim)(y:RR){q:Rat}{n:Nat}(hy:Vq y q n)(hn:n<=9000000)(hSM:c.M.length=c.S.length)(V:Nat->RR){q0 q2 q3 g4 g7:Nat}{x1004:Cont}(s0:St)
  (hown:Fit s0 [] [(2000,q0,dN #[a,b] asg body .ready none sc.reg),(2002,q2,⟨134,2,[eC c],2⟩),(2003,q3,⟨42,4,[eR y],2⟩),(1004,g4,x1004),(1007,g7,⟨42,4,[eR (V 0)],2⟩)])
  (hround:∀i,i<c.S.length->¬q-c.s i<0->∀(b4:Nat) (bf:RR) (own:Nat->Nat × Option Cont),Fit { reg:=fun _ => .raw undef,own:=own } [] (O_ q0 q2 q3 g4 g7 b4 (dN #[a,b] asg body .ready none sc.reg) ⟨134,2,[eC c],2⟩ ⟨42,4,[eR y],2⟩ x1004 bf (V i)) ->
   ∀vo:Exit->St->Prop,(∀s2,Fit s2 [] (O_ q0 q2 q3 g4 g7 b4 (dN #[a,b] asg body .busy none sc.reg) ⟨134,2,[eC c],2⟩ ⟨42,4,[eR y],2⟩ x1004 bf (V (i+1)))->vo .normal s2) ->
   PWP Tryz.prog lay.get asg (aF (fun s2=>s2.own 2000=(q0,some (dN #[a,b] asg body .ready none sc.reg))/\PWP Tryz.prog lay.get body vo { reg:=s2.reg,own:=(s2.setOwn 2000 q0 (some (dN #[a,b] asg body .busy none sc.reg))).own }) (fun _ _=>False))
    { reg:=yh [(a,.agg (eR (ofQ (c.m i-cE c.m i)))),(b,.agg (eR (ofQ (q-c.s i))))] sc.reg,own:=own })
  (hend:∀i,i<=c.S.length->(i=c.S.length\/(i<c.S.length/\q-c.s i<0))->∀(b4:Nat) (bf:RR) (s2:St),Fit s2 [] (O_ q0 q2 q3 g4 g7 b4 (dN #[a,b] asg body .ready none sc.reg) ⟨134,2,[eC c],2⟩ ⟨42,4,[eR y],2⟩ x1004 bf (V i)) ->
   Q .normal { reg:=sc.reg,own:=(s2.setOwn 2000 (q0+1) none).own }) :
  PWP Tryz.prog lay.get ((Tryz.f291.body).getD .skip) (r_ sc 2000 q0 #[a,b] asg body Q) { reg:=fun t=>[PV.yl 2000 q0,.ptr 2002 q2 0 0,.ptr 2003 q3 0 0].getD t (.raw undef),own:=s0.own }:=by
 have hz:=jw 0 Y Y;have hSl:(c.S.map eN).length=c.S.length:=ao;rw[<-Fit.over (l:=[]) hown];generalize hrd:dN #[a,b] asg body .ready none sc.reg=rd at *
 refine G hz ?_;refine H ?_;refine ah (fun k:Nat × Nat × RR=>k.1<=c.S.length/\k.2.2=MG c k.1) (fun k=>[(0,.yl 2000 q0),(1,.ptr 2002 q2 0 0),(2,.ptr 2003 q3 0 0),(4,.ptr 4 k.2.1 0 0),(10,.sl (c.S.map eN)),(11,I c.S.length),(12,I (k.1:Nat))])
  (fun k=>O_ q0 q2 q3 g4 g7 k.2.1 rd ⟨134,2,[eC c],2⟩ ⟨42,4,[eR y],2⟩ x1004 k.2.2 (V k.1)) (fun k=>c.S.length-k.1) (0,_,MG c 0) ⟨aP _,O⟩ ⟨O,O,O,O,O,by rw[<-hSl];rfl,O,O,O,O,O,O,O,trivial⟩ ?_
 rintro⟨i,b4,bf⟩ st ⟨hi,hbf⟩;simp only at hi hbf;subst hbf;dsimp only;refine D ?_ ?_<;>intro h
 .have hlt:i<c.S.length:=by have:=aB h;omega
  clear h;have hx:=bF (d:=0) hlt;have hxb:=rP hc i;have hnum:=jw (c.S.getD i 0) hxb.1 hxb.2;have hzb:Zb (c.S.getD i 0):=aJ hxb.1 hxb.2;have hsub:=np y (ofQ ((c.S.getD i 0:Int):Rat)) (hx:=hy) J Y;have hfar:Vq (ofQ (q-((c.S.getD i 0:Int):Rat))) (q-c.s i) (n+1+4+1):=Vq.ofQ (h:=@HQ.sub _ _ (n+1) 4 hy.hq HQ.int);have hsg:=Pf (ofQ (q-((c.S.getD i 0:Int):Rat))) (hx:=hfar) J;have hsl:=cX (q-c.s i);have hw:IntKind.i64.wrap (((i:Nat):Int)+1)=((i+1:Nat):Int):=by
   have:=c.S.length;rw[wrap_i64 J (by have:=hc.ls;omega)];omega
  refine aQ hx ?_;refine cN 4 ?_;refine am (fp 7) ?_;refine be [(4,7),(5,7)] aK aK ?_;refine G hnum ?_;refine G hsub ?_;refine H ?_;refine KW 13 [21,22,23,24,25,26,27,28,29,30,31,32,33] aK ?_;refine aj hsg ?_;refine eW ?_ ?_<;>intro h
  .have hneg:q-c.s i<0:=hsl.1 (aB h);clear h;refine H ?_;refine yN ?_;refine H ?_;refine .inl ⟨by rw[<-hrd];rfl,?_⟩;exact hend i J (.inr ⟨hlt,hneg⟩) b4 _ _ ⟨O,O,O,O,O,O,trivial⟩
  .have hpos:¬q-c.s i<0:=fun h2=>(aE h) (hsl.2 h2);clear h;have hmx:=bF (l:=c.M) (i:=i) (d:=RR.zero) J;have hmv:=Co c hc i;have hbv:=yg c hc i;have hsub2:=np (c.M.getD i RR.zero) (MG c i) (hx:=hmv) (hy:=hbv) Y Y;refine aQ hmx ?_;refine G hsub2 ?_;refine H ?_;refine Ie O O O (LF (ps:=#[a,b]) (asg:=asg) (body:=body) (regs:=sc.reg) O O O (by rw[hrd];rfl) O ?_);rw[hrd];refine hround i hlt hpos b4 (MG c i) _ (by exact⟨O,O,O,O,O,O,trivial⟩) _ (fun s2 hf=>?_);rw[<-Fit.over (l:=[]) hf];refine⟨O,?_⟩;refine yN ?_;refine aQ hmx ?_;refine H ?_;exact⟨(i+1,b4,MG c (i+1)),⟨by simp only;omega,O⟩,by simp only;omega,O,O,O,O,O,O,congrArg I hw,by rw[<-hrd];rfl,O,O,O,O,O,trivial⟩
 .have hie:i=c.S.length:=by have:=aE h;omega
  clear h;refine H ?_;refine .inl ⟨by rw[<-hrd];rfl,?_⟩;exact hend i J (.inl hie) b4 _ _ ⟨O,O,O,O,O,O,trivial⟩
def tv:Code->Option (Array Tmp × Code × Code)
 |.rangeFunc _ ps a b=>some (ps,a,b)
 |.seq x y=>match tv x with|some r=>some r|none=>tv y
 |.block _ c=>tv c
 |.loop c=>tv c
 |.cond _ x y=>match tv x with|some r=>some r|none=>tv y
 |_=>none
theorem wN {c:CR}(hc:c.Lim)(k:Nat):HQ (c.m k-cE c.m k) 27:=@HQ.sub _ _ 13 13 (Co c hc k).hq (yg c hc k).hq
theorem KZ {c:CR}(hc:c.Lim){q:Rat}{n:Nat}(h:HQ q n)(k:Nat):HQ (q-c.s k) (n+5):=by
 have hb:=rP hc k;have hzb:Zb (c.S.getD k 0):=aJ hb.1 hb.2;exact @HQ.sub _ _ n 4 h HQ.int
theorem Gz {c:CR}(hc:c.Lim){q:Rat}{n:Nat}(h:HQ q n)(k:Nat):HQ (fU c.s c.m q k) (n+32):=by
 rw[fU];split
 .exact HQ.zero.mono J
 .exact(@HQ.mul _ _ 27 (n+5) (wN hc k) (KZ hc h k)).mono J
theorem yP {c:CR}(ha:∀k,k+1<c.S.length->c.s k<c.s (k+1)){f:Nat->Rat}{q:Rat}(hf:∀k,q-c.s k<0->f k=0){i:Nat}(hi:i<=c.S.length)(h:i=c.S.length\/(i<c.S.length/\q-c.s i<0)):aq f i=aq f c.S.length:=by
 rcases h with h|⟨h1,h2⟩
 .rw[h]
 .have key:∀m,i+m<=c.S.length->aq f (i+m)=aq f i/\(i+m<c.S.length->q-c.s (i+m)<0):=by
   intro m
   induction m with
   |zero=>intro _;exact⟨rfl,fun _=>h2⟩
   |succ m ih =>
    intro hm;obtain⟨e1,e2⟩:=ih J;have h3:=e2 J;refine⟨by rw[Nat.add_succ,aq,e1,hf _ h3];grind,fun hl=>?_⟩;have h4:=ha (i+m) J;rw[show i+(m+1)=i+m+1 by omega];grind
  have:=(key (c.S.length-i) J).1;rw[show i+(c.S.length-i)=c.S.length by omega]at this;exact this.symm
theorem yq {c:CR}:∀(k i:Nat),iT c i k=0->∀j,i<=j->j<i+k->j2 c j=0
 |0,i,_,j,h1,h2=>by omega
 |k+1,i,h,j,h1,h2=>by
  rw[iT]at h;by_cases hs:j2 c i=0
  .rw[if_pos hs]at h;by_cases hj:j=i
   .subst hj;exact hs
   .exact yq k (i+1) h j J J
  .rw[if_neg hs]at h;exact absurd h hs
theorem ic {c:CR}(h:eL c=0):c.S.length<=40/\c.M.length=c.S.length/\(∀k,k<c.S.length -> -10000000<=c.S.getD k 0/\c.S.getD k 0<=10000000/\0<=c.m k)/\∀k,k+1<c.S.length->c.s k<c.s (k+1):=by
 rw[eL]at h;split at h
 .omega
 .rename_i h1;split at h
  .omega
  .rename_i h2;have hs:=yq _ _ h;refine⟨J,J,fun k hk=>?_,fun k hk=>?_⟩
   .have:=hs k J J;rw[j2]at this;split at this
    .omega
    .rename_i h3;refine⟨J,J,?_⟩;rw[CR.m];have:¬(c.M.getD k RR.zero).val<0:=fun h=>h3 (.inr (.inr h));grind
   .have:=hs (k+1) J J;rw[j2]at this;split at this
    .omega
    .split at this
     .omega
     .rename_i h4;have h5:c.S.getD k 0<c.S.getD (k+1) 0:=by
       rw[show k+1-1=k by omega]at h4;omega
      rw[CR.s,CR.s]
      exact_mod_cast h5
theorem Hh {c:CR}(h:eL c=0):Crv c.S.length c.s c.m:=⟨(ic h).2.2.2,fun k hk=>((ic h).2.2.1 k hk).2.2⟩
noncomputable def Q4:Array Tmp × Code × Code:=(tv ((Tryz.f258.body).getD .skip)).getD (#[],.skip,.skip)
def GA (P:Program)(sc:St)(q0 q2 q3 g4 g7 b4:Nat)(pa pb:Nat)(asg body:Code)(x2 x3 x1004:Cont)(bf V0 V1 CH FA:RR):Prop :=
 ∀own:Nat->Nat × Option Cont,Fit { reg:=fun _ => .raw undef,own:=own } [] (O_ q0 q2 q3 g4 g7 b4 (dN #[pa,pb] asg body .ready none sc.reg) x2 x3 x1004 bf V0) ->
  ∀vo:Exit->St->Prop,(∀s2,Fit s2 [] (O_ q0 q2 q3 g4 g7 b4 (dN #[pa,pb] asg body .busy none sc.reg) x2 x3 x1004 bf V1)->vo .normal s2) ->
  PWP P lay.get asg (aF (fun s2=>s2.own 2000=(q0,some (dN #[pa,pb] asg body .ready none sc.reg))/\PWP P lay.get body vo { reg:=s2.reg,own:=(s2.setOwn 2000 q0 (some (dN #[pa,pb] asg body .busy none sc.reg))).own }) (fun _ _=>False))
   { reg:=yh [(pa,.agg (eR CH)),(pb,.agg (eR FA))] sc.reg,own:=own }
theorem Du {s0:St}{q0 q2 q3 g4 g7 b4:Nat}{x2 x3 x1004:Cont}{bf V0 V1 CH FA PR:RR}(hmul:aO 109 [.agg (eR CH),.agg (eR FA)] (.agg (eR PR)))(hadd:aO 91 [.agg (eR V0),.agg (eR PR)] (.agg (eR V1))) :
  GA Tryz.prog (s0.over [(7,.ptr 1007 g7 0 0)] []) q0 q2 q3 g4 g7 b4 20 21 Q4.2.1 Q4.2.2 x2 x3 x1004 bf V0 V1 CH FA:=by
 intro own hf vo hPost;have ho:own=(St.over { reg:=fun _ => .raw undef,own:=own } [] (O_ q0 q2 q3 g4 g7 b4 (dN #[20,21] Q4.2.1 Q4.2.2 .ready none (s0.over [(7,.ptr 1007 g7 0 0)] []).reg) x2 x3 x1004 bf V0)).own:=congrArg St.own (Fit.over hf).symm;rw[ho];clear ho hf;generalize (St.mk (fun _ => .raw undef) own)=s1;refine H ?_;refine⟨O,?_⟩;refine cO 5 [22,23,24,25,26] ?_;refine G hmul ?_;refine G hadd ?_;refine H ?_;exact hPost _ ⟨O,O,O,O,O,O,trivial⟩
theorem IR (c:CR)(hc:c.Lim)(h0:eL c=0)(y:RR){q:Rat}{n:Nat}[hy:Vq y q n](hn:n<=100000):aO 258 [.agg (eC c),.agg (eR y)] (.tup [.agg (eR (ofQ (kR c.S.length c.s c.m q))),I 0]):=by
 have hcc:=iS c hc;rw[h0]at hcc;obtain⟨h40,hSM,-,hasc⟩:=ic h0;have hz:=jw 0 Y Y;rw[show(((0:Int):Rat))=0 from O]at hz;have hsum:∀i,i<=40->Vq (ofQ (aq (fU c.s c.m q) i)) (aq (fU c.s c.m q) i) (i*(n+1+32+1)+4):=fun i _=>Vq.ofQ (h:=b9 i fun k _=>Gz hc hy.hq k);refine Ret.of_pwpR layOk mixed Go.Proofs.Tryz.func258 O Y O O O ?_;refine aj hcc ?_;refine G hz ?_;refine cN 5 ?_;refine am (Ghost.move (k:=2) (k':=1002) (t:=2) O O O O) ?_;refine am (Ghost.move (k:=3) (k':=1003) (t:=3) O O O O) ?_;refine am (Ghost.move (k:=4) (k':=1004) (t:=4) O O O O) ?_;refine am (Ghost.move (k:=7) (k':=1007) (t:=7) O O O O) ?_
 (refine cN 5 ?_;refine aU 2 ?_)
 iterate 2 refine iH O ?_
 refine bH ?_;refine bC O (cS layOk O O Go.Proofs.Tryz.func284 O Y O O ?_);refine cN 1 ?_;refine am (Ghost.move (k:=2) (k':=2002) (t:=2) O O O O) ?_;refine am (Ghost.move (k:=3) (k':=2003) (t:=3) O O O O) ?_;refine H ?_;refine zQ O O ?_;refine aW ?_;refine H ?_;refine aT [(7,.ptr 1007 1 0 0),(4,.ptr 1004 1 0 0),(19,.clo 291 [.ptr 2002 1 0 0,.ptr 2003 1 0 0])] [(2002,1,⟨134,2,[eC c],2⟩),(2003,1,⟨42,4,[eR y],2⟩),(1004,1,⟨42,4,[[.bool false,.nil,.bool false,.nil]],2⟩),(1007,1,⟨42,4,[eR (ofQ 0)],2⟩)] ⟨O,O,O,O,O,O,O,trivial⟩ ?_;intro s3;refine CP (yR (ps:=#[20,21]) (asg:=Q4.2.1) (body:=Q4.2.2) 2000 O Go.Proofs.Tryz.func291 O O O O O O ?_);generalize hq0:(s3.own 2000).1+1=q0;refine wY (q:=q) (n:=n) (q0:=q0) (q2:=1) (q3:=1) (g4:=1) (g7:=1) c hc y hy J hSM (fun i=>ofQ (aq (fU c.s c.m q) i)) _ ⟨by rw[<-hq0];rfl,O,O,O,O,trivial⟩ ?_ ?_
 .intro i hi hpos b4 bf;have hmul:=i7 (ofQ (c.m i-cE c.m i)) (ofQ (q-c.s i)) (hx:=Vq.ofQ (h:=wN hc i)) (hy:=Vq.ofQ (h:=KZ hc hy.hq i)) Y J;have hadd:=eY (ofQ (aq (fU c.s c.m q) i)) (ofQ ((c.m i-cE c.m i)*(q-c.s i))) (hx:=hsum i J) (hy:=Vq.ofQ (h:=@HQ.mul _ _ 27 (n+1+5) (wN hc i) (KZ hc hy.hq i))) (by have:=et (show i<=40 by omega) (show n+1+32+1<=100034 by omega);omega) J;rw[show aq (fU c.s c.m q) i+(c.m i-cE c.m i)*(q-c.s i)=aq (fU c.s c.m q) (i+1) by rw[aq,fU,if_neg hpos]]at hadd;exact Du (s0:=s3.over [(4,.ptr 1004 1 0 0),(19,.clo 291 [.ptr 2002 1 0 0,.ptr 2003 1 0 0])] []) hmul hadd
 .intro i hi hor b4 bf s2 hf;have hres:aq (fU c.s c.m q) i=kR c.S.length c.s c.m q:=yP hasc (fun k hk=>by rw[fU,if_pos hk]) hi hor;dsimp only at hf;rw[hres]at hf;rw[<-Fit.over (l:=[]) hf];exact bW
namespace Bd
variable {b:Bd}
def gr (b:Bd)(p:Nat->Nat)(i:Nat):Rat:=b.X i-b.Kc p/b.Kh p
theorem Ou {p:Nat->Nat}(hK:b.Kh p≠0)(t t':Rat)(i:Nat):b.y (b.ln p t') t' i=b.y (b.ln p t) t i+b.gr p i*(t'-t):=by
 rw[y,y,ln,ln,gr];grind
def Cross (b:Bd)(p:Nat->Nat)(t:Rat):Prop:=∃i,i<b.N/\∃k,k<b.n i/\b.y (b.ln p t) t i=b.S i k/\b.gr p i≠0
def det (b:Bd)(p:Nat->Nat):Rat:=b.Kh p*b.Kp p-b.Kc p*b.Kc p
def Tm (b:Bd)(t:Rat):Prop:=∃p:Nat->Nat,(∀i,i<b.N->p i<=b.n i)/\b.Kh p≠0/\(b.Cross p t\/(b.eln p t=0/\b.det p≠0))
theorem Nt {n:Nat}{S:Nat->Rat}{p:Nat}{y0 y1:Rat}(h:I_ n S p y0):∃s:Rat,0<=s/\s<=1/\(∀s',0<=s'->s'<=s->I_ n S p (y0+s'*(y1-y0)))/\(s=1\/∃k,k<n/\y0+s*(y1-y0)=S k/\y1≠y0):=by
 obtain⟨h1,h2,h3⟩:=h;by_cases hu:p<n/\S p<y1
 .have h4:=h3 hu.1;have hd:0<y1-y0:=bM;have hne:y1-y0≠0:=bM;have hs:(S p-y0)/(y1-y0)*(y1-y0)=S p-y0:=mB hne;refine⟨(S p-y0)/(y1-y0),?_,?_,fun s' g1 g2=>⟨h1,fun k hk=>?_,fun _=>?_⟩,.inr ⟨p,hu.1,bM,bM⟩⟩
  .rw[oK];exact ka bM (iq (uO.2 hd))
  .by_cases hc:(S p-y0)/(y1-y0)<=1
   .exact hc
   .have:=Rat.mul_pos (show 0<(S p-y0)/(y1-y0)-1 by grind) hd;grind
  .have:=h2 k hk;have:=ka g1 (iq hd);grind
  .have:=Rat.mul_nonneg (show 0<=(S p-y0)/(y1-y0)-s' by grind) (Rat.le_of_lt hd);grind
 .by_cases hl:∃k,p=k+1/\y1<S k
  .obtain⟨k,rfl,hk⟩:=hl;have h4:=h2 k O;have hd:0<y0-y1:=bM;have hne:y0-y1≠0:=bM;have hs:(y0-S k)/(y0-y1)*(y0-y1)=y0-S k:=mB hne;refine⟨(y0-S k)/(y0-y1),?_,?_,fun s' g1 g2=>⟨h1,fun k' hk'=>?_,fun hn=>?_⟩,.inr ⟨k,J,bM,bM⟩⟩
   .rw[oK];exact ka bM (iq (uO.2 hd))
   .by_cases hc:(y0-S k)/(y0-y1)<=1
    .exact hc
    .have:=Rat.mul_pos (show 0<(y0-S k)/(y0-y1)-1 by grind) hd;grind
   .obtain rfl:k=k':=J;have:=Rat.mul_nonneg (show 0<=(y0-S k)/(y0-y1)-s' by grind) (Rat.le_of_lt hd);grind
   .have:=h3 hn;have:=ka g1 (iq hd);grind
  .refine⟨1,Y,ez,fun s' g1 g2=>⟨h1,fun k hk=>?_,fun hn=>?_⟩,.inl O⟩
   .have h4:=h2 k hk;have h5:¬y1<S k:=fun hh=>hl ⟨k,hk,hh⟩;have h6:=Rat.mul_nonneg g1 (show 0<=y1-S k by grind);have h7:=Rat.mul_nonneg (show 0<=1-s' by grind) (show 0<=y0-S k by grind);grind
   .have h4:=h3 hn;have h5:¬S p<y1:=fun hh=>hu ⟨hn,hh⟩;have h6:=Rat.mul_nonneg g1 (show 0<=S p-y1 by grind);have h7:=Rat.mul_nonneg (show 0<=1-s' by grind) (show 0<=S p-y0 by grind);grind
theorem S6 {p:Nat->Nat}{t0:Rat}(hK:b.Kh p≠0)(h0:b.Inc p (b.ln p t0) t0)(t1:Rat) :
  ∃s:Rat,0<=s/\s<=1/\(∀s',0<=s'->s'<=s->b.Inc p (b.ln p (t0+s'*(t1-t0))) (t0+s'*(t1-t0)))/\(s=1\/b.Cross p (t0+s*(t1-t0))):=by
 have hy:∀s i,b.y (b.ln p (t0+s*(t1-t0))) (t0+s*(t1-t0)) i=b.y (b.ln p t0) t0 i+s*(b.y (b.ln p t1) t1 i-b.y (b.ln p t0) t0 i):=by
  intro s i;rw[Ou hK t0 (t0+s*(t1-t0)),Ou hK t0 t1];grind
 have key:∀m,m<=b.N->∃s:Rat,0<=s/\s<=1/\(∀s',0<=s'->s'<=s->∀i,i<m->I_ (b.n i) (b.S i) (p i) (b.y (b.ln p (t0+s'*(t1-t0))) (t0+s'*(t1-t0)) i))/\(s=1\/b.Cross p (t0+s*(t1-t0))):=by
  intro m
  induction m with
  |zero=>exact fun _=>⟨1,Y,ez,fun _ _ _ i hi=>by omega,.inl rfl⟩
  |succ m ih =>
   intro hm;obtain⟨s,g1,g2,g3,g4⟩:=ih J;obtain⟨s2,k1,k2,k3,k4⟩:=Nt (y1:=b.y (b.ln p t1) t1 m) (h0 m J);by_cases hs:s<=s2
   .refine⟨s,g1,g2,fun s' q1 q2 i hi=>?_,g4⟩;by_cases he:i<m
    .exact g3 s' q1 q2 i he
    .obtain rfl:i=m:=J;rw[hy];exact k3 s' q1 bM
   .refine⟨s2,k1,k2,fun s' q1 q2 i hi=>?_,?_⟩
    .by_cases he:i<m
     .exact g3 s' q1 bM i he
     .obtain rfl:i=m:=J;rw[hy];exact k3 s' q1 q2
    .rcases k4 with k4|⟨k,q1,q2,q3⟩
     .exact .inl k4
     .refine .inr ⟨m,J,k,q1,by rw[hy];exact q2,fun hg=>?_⟩;have:=Ou hK t0 t1 m;rw[hg]at this;exact q3 bM
 exact key b.N (a_)
theorem vS {p:Nat->Nat}(hK:b.Kh p≠0)(t t':Rat):(b.eln p t'-b.eln p t)*b.Kh p=b.det p*(t'-t):=by
 rw[eln,eln,ln,ln,det];grind
theorem GX {p:Nat->Nat}(hK:0<b.Kh p){t0 t1:Rat}(h0:b.eln p t0<0)(h1:0<=b.eln p t1):∃s:Rat,0<s/\s<=1/\b.eln p (t0+s*(t1-t0))=0/\b.det p≠0:=by
 have hne:b.Kh p≠0:=bM;have hl:=vS hne t0 t1;have hd:0<b.eln p t1-b.eln p t0:=bM;have hd':b.eln p t1-b.eln p t0≠0:=bM;have hdet:b.det p≠0:=by
  intro h;rw[h]at hl;have:=Rat.mul_pos hd hK;grind
 have hs:(-b.eln p t0)/(b.eln p t1-b.eln p t0)*(b.eln p t1-b.eln p t0) = -b.eln p t0:=mB hd';generalize (-b.eln p t0)/(b.eln p t1-b.eln p t0)=s at *
 refine⟨s,?_,?_,?_,hdet⟩
 .by_cases hc:0<s
  .exact hc
  .have:=Rat.mul_nonneg (show 0 <= -s by grind) (Rat.le_of_lt hd);grind
 .by_cases hc:s<=1
  .exact hc
  .have:=Rat.mul_pos (show 0<s-1 by grind) hd;grind
 .have h2:=vS hne t0 (t0+s*(t1-t0));have h3:(b.eln p (t0+s*(t1-t0))-b.eln p t0-s*(b.eln p t1-b.eln p t0))*b.Kh p=0:=bM;rcases Rat.mul_eq_zero.1 h3 with h4|h4
  .grind
  .exact absurd h4 hne
theorem JV (h:b.Ok){lo hi zl zh:Rat}(hlt:lo<hi)(ll:b.Least zl lo)(lh:b.Least zh hi)(el:b.e zl lo<0)(eh:0<b.e zh hi)
  (sep:∀t t',b.Tm t->b.Tm t'->lo<=t->t<=hi->lo<=t'->t'<=hi->t=t') {p:Nat->Nat} (hp:b.Inl p zl lo) :
  ∃t,b.Bal (b.ln p t) t/\b.eln p t=0/\b.det p≠0:=by
 have hK:=ll.K h hp;have hne:b.Kh p≠0:=bM;have hzl:=ln_at h ll.1 hp.c hK;have hpc:=hp.c;rw[hzl]at hpc;have el':b.eln p lo<0:=by rw[<-JG h hpc,<-hzl];exact el
 obtain⟨s,g1,g2,g3,g4⟩:=S6 hne hpc hi;have g5:=g3 s g1 ez;have hFb:∀t,b.Inc p (b.ln p t) t->b.eln p t=0->b.Bal (b.ln p t) t:=fun t h1 h2=>by
  refine⟨Mw h h1 hK,?_⟩;have:=JG h h1;rw[h2,e]at this;grind
 have hple:∀i,i<b.N->p i<=b.n i:=fun i hi=>(hp i hi).1;by_cases hz:0<=b.eln p (lo+s*(hi-lo))
 .obtain⟨r,k1,k2,k3,k4⟩:=GX hK el' hz;refine⟨_,hFb _ ?_ k3,k3,k4⟩;rw[show lo+r*(lo+s*(hi-lo)-lo)=lo+r*s*(hi-lo) by grind];refine g3 _ (ka bM g1) ?_;have:=Rat.mul_nonneg (show 0<=1-r by grind) g1;grind
 .exfalso;generalize ht1:lo+s*(hi-lo)=t1 at *
  have hin1:lo<=t1/\t1<=hi:=by
   have:=Rat.mul_nonneg g1 (show 0<=hi-lo by grind);have:=Rat.mul_nonneg (show 0<=1-s by grind) (show 0<=hi-lo by grind);grind
  have he1:b.e (b.ln p t1) t1<0:=by rw[JG h g5];grind
  have hF1:=Mw h g5 hK;have hT1:b.Tm t1:=by
   rcases g4 with g4|g4
   .exfalso;have:t1=hi:=by rw[<-ht1,g4];grind
    rw[this]at he1 hF1;have:=Lw h (hF1.trans lh.1.symm);rw[e]at he1 eh;grind
   .exact⟨p,hple,hne,.inl g4⟩
  obtain⟨q,hq⟩:=FN h zh hi;have hKq:=lh.K h hq;have hneq:b.Kh q≠0:=bM;have hzh:=ln_at h lh.1 hq.c hKq;have hqc:=hq.c;rw[hzh]at hqc;have eh':0<b.eln q hi:=by rw[<-JG h hqc,<-hzh];exact eh
  have hqle:∀i,i<b.N->q i<=b.n i:=fun i hi=>(hq i hi).1;obtain⟨r,k1,k2,k3,k4⟩:=S6 hneq hqc lo;generalize ht2:hi+r*(lo-hi)=t2 at *
  have hin2:lo<=t2/\t2<=hi:=by
   have:=Rat.mul_nonneg k1 (show 0<=hi-lo by grind);have:=Rat.mul_nonneg (show 0<=1-r by grind) (show 0<=hi-lo by grind);grind
  have hle:t2<=t1:=by
   rcases k4 with k4|k4
   .have:t2=lo:=by rw[<-ht2,k4];grind
    grind
   .have:=sep t1 t2 hT1 ⟨q,hqle,hneq,.inl k4⟩ hin1.1 hin1.2 hin2.1 hin2.2;grind
  have hw:0<hi-lo:=bM;have hwn:hi-lo≠0:=bM;have hs':(hi-t1)/(hi-lo)*(hi-lo)=hi-t1:=mB hwn;have hq1:b.Inc q (b.ln q t1) t1:=by
   have:=k3 ((hi-t1)/(hi-lo)) ?_ ?_
   .rwa [show hi+(hi-t1)/(hi-lo)*(lo-hi)=t1 by grind]at this
   .rw[oK];exact ka bM (iq (uO.2 hw))
   .by_cases hc:(hi-t1)/(hi-lo)<=r
    .exact hc
    .have:=Rat.mul_pos (show 0<(hi-t1)/(hi-lo)-r by grind) hw;grind
  have hF2:=Mw h hq1 hKq;have heq:b.eln q t1<0:=by
   rw[<-JG h hq1];have:=Lw h (hF1.trans hF2.symm);rw[e]at he1 ⊢;grind
  obtain⟨u,q1,q2,q3,q4⟩:=GX hKq heq (iq eh');have hT3:b.Tm (t1+u*(hi-t1)):=⟨q,hqle,hneq,.inr ⟨q3,q4⟩⟩;have hth:t1<hi:=by
   by_cases hc:t1=hi
   .rw[hc]at heq;grind
   .grind
  have hu:=Rat.mul_pos q1 (show 0<hi-t1 by grind);have hu2:=Rat.mul_nonneg (show 0<=1-u by grind) (show 0<=hi-t1 by grind);have:=sep t1 _ hT1 hT3 hin1.1 hin1.2 bM bM;grind
end Bd
namespace Bd
variable {b:Bd}
def lim (b:Bd)(i:Nat):Prop:=cE (b.M i) (b.n i)=0
def cap (b:Bd)(i:Nat):Rat:=xU (b.n i) (b.S i) (b.M i)
theorem vB (x z:Rat):∃u:Rat,0<=u/\x<=u/\z<=u:=⟨gl x+gl z,by simp only[gl];grind,by simp only[gl];grind,by simp only[gl];grind⟩
theorem oA {g c B:Rat}(hg:0<g):∃u0:Rat,∀u,u0<=u->B<=c+g*u:=by
 refine⟨(B-c)/g,fun u hu=>?_⟩;have h1:(B-c)/g*g=B-c:=mB bM;have:=Rat.mul_nonneg (show 0<=u-(B-c)/g by grind) (Rat.le_of_lt hg);grind
theorem Td (h:b.Ok){s z t:Rat}(hs:s=1\/s = -1)(hl:b.Least z t)(he:s*b.e z t<0)(hT:∀t',b.Tm t'->0<s*(t-t')) :
  ∃i0,i0<b.N/\(∀i,i<b.N->0<s*(b.X i-b.X i0)->b.lim i)/\aq (fun i=>if 0<s*(b.X i-b.X i0) then b.cap i*(s*(b.X i-b.X i0)) else 0) b.N<b.w*(s*(b.A-b.X i0)):=by
 obtain⟨p,hp⟩:=FN h z t;have hK:=hl.K h hp;have hne:b.Kh p≠0:=bM;have hz:=ln_at h hl.1 hp.c hK;have hpc:=hp.c;rw[hz]at hpc;have hple:∀i,i<b.N->p i<=b.n i:=fun i hi=>(hp i hi).1;have hss:s*s=1:=by rcases hs with rfl|rfl<;>grind
 have hall:∀u:Rat,0<=u->b.Inc p (b.ln p (t+s*u)) (t+s*u):=by
  intro u hu;obtain⟨r,g1,g2,g3,g4⟩:=S6 hne hpc (t+s*u);rcases g4 with rfl|g4
  .have:=g3 1 Y ez;rwa [show t+1*(t+s*u-t)=t+s*u by grind]at this
  .have:=hT _ ⟨p,hple,hne,.inl g4⟩;have h2:=ka g1 hu;exfalso;have:s*(t-(t+r*(t+s*u-t))) = -(r*u)*(s*s):=bM;rw[hss]at this;grind
 have hyu:∀(u:Rat) i,b.y (b.ln p (t+s*u)) (t+s*u) i=b.y (b.ln p t) t i+(s*b.gr p i)*u:=fun u i=>by rw[Ou hne t];grind
 have hfle:∀(u:Rat) i,0<=u->i<b.N->b.k p i*(b.y (b.ln p t) t i+(s*b.gr p i)*u)-b.o p i<=b.w:=by
  intro u i hu hi;have h1:=hall u hu;rw[<-hyu,<-f_at h h1 hi,<-Mw h h1 hK];exact rT (f:=b.f (b.ln p (t+s*u)) (t+s*u)) (fun k hk=>f_nn h hk) hi
 have hup:∀i,i<b.N->0<s*b.gr p i->p i=b.n i/\b.k p i=0:=by
  intro i hi hg;have hk0:b.k p i=0:=by
   rcases dD (0<b.k p i) with hk|hk
   .exfalso;obtain⟨u0,hu0⟩:=oA (g:=b.k p i*(s*b.gr p i)) (c:=b.k p i*b.y (b.ln p t) t i-b.o p i) (B:=b.w+1) (Rat.mul_pos hk hg);obtain⟨u,h1,h2,_⟩:=vB u0 0;have:=hu0 u h2;have:=hfle u i h1 hi;grind
   .have:=P7 h hpc hi;grind
  refine⟨?_,hk0⟩;rcases bG (p i) (b.n i) with hlt|hge
  .exfalso;obtain⟨u0,hu0⟩:=oA (g:=s*b.gr p i) (c:=b.y (b.ln p t) t i) (B:=b.S i (p i)+1) hg;obtain⟨u,h1,h2,_⟩:=vB u0 0;have h3:=hu0 u h2;have h4:=((hall u h1) i hi).2.2 hlt;rw[hyu]at h4;grind
  .have:=hple i hi;omega
 have hdown:∀i,i<b.N->s*b.gr p i<0->p i=0:=by
  intro i hi hg;cases hpi:p i with
  |zero=>rfl
  |succ k =>
   exfalso;obtain⟨u0,hu0⟩:=oA (g := -(s*b.gr p i)) (c := -(b.y (b.ln p t) t i)) (B := -(b.S i k)+1) bM;obtain⟨u,h1,h2,_⟩:=vB u0 0;have h3:=hu0 u h2;have h4:=((hall u h1) i hi).2.1 k hpi;rw[hyu]at h4;grind
 obtain⟨i0,hi0,hk0⟩:=L8 hK fun i hi=>P7 h hpc hi;have hg0:b.gr p i0=0:=by
  rcases dD (0<s*b.gr p i0) with hc|hc
  .have:=(hup i0 hi0 hc).2;grind
  .rcases dD (s*b.gr p i0<0) with hd|hd
   .have:=hdown i0 hi0 hd;rw[k,this,cE]at hk0;grind
   .have h1:s*b.gr p i0=0:=bM;have:s*s*b.gr p i0=0:=by rw[Rat.mul_assoc,h1,Rat.mul_zero]
    rw[hss]at this;grind
 have hX:∀i,b.gr p i=b.X i-b.X i0:=fun i=>by
  have:=hg0;rw[gr]at this ⊢;grind
 refine⟨i0,hi0,fun i hi hc=>?_,?_⟩
 .rw[<-hX]at hc;obtain⟨h1,h2⟩:=hup i hi hc;rw[lim,<-h1];exact h2
 .have hsum:aq (fun i=>if 0<s*(b.X i-b.X i0) then b.cap i*(s*(b.X i-b.X i0)) else 0) b.N=s*(b.G0 z t-b.w*b.X i0):=by
   have h1:∀i,i<b.N->(if 0<s*(b.X i-b.X i0) then b.cap i*(s*(b.X i-b.X i0)) else 0)=(b.f z t i*b.X i-b.f z t i*b.X i0)*s:=by
    intro i hi;rcases dD (0<s*(b.X i-b.X i0)) with hc|hc
    .rw[if_pos hc];rw[<-hX]at hc;obtain⟨g1,g2⟩:=hup i hi hc;have h2:=hp.c i hi;rw[g1]at h2;have h3:=xL (h.crv i hi) h2 (by rw[<-g1];exact g2);rw[cap,<-h3,f];grind
    .rw[if_neg hc];rcases dD (s*(b.X i-b.X i0)<0) with hd|hd
     .rw[<-hX]at hd;have h2:=hp.c i hi;rw[hdown i hi hd]at h2;have h3:=IQ (h.crv i hi) h2;rw[f,h3];grind
     .have h2:s*(b.X i-b.X i0)=0:=bM;have:(b.f z t i*b.X i-b.f z t i*b.X i0)*s=b.f z t i*(s*(b.X i-b.X i0)):=bM;rw[this,h2];grind
   rw[eF h1,nY];have h2:aq (fun i=>b.f z t i*b.X i-b.f z t i*b.X i0) b.N=b.G0 z t-b.F z t*b.X i0:=by
    have:=xy (f:=fun i=>b.f z t i*b.X i) (g:=fun i=>b.f z t i*(-b.X i0)) (n:=b.N);rw[nY (f:=b.f z t)]at this;rw[G0,F];have h3:aq (fun i=>b.f z t i*b.X i-b.f z t i*b.X i0) b.N=aq (fun i=>b.f z t i*b.X i+b.f z t i*(-b.X i0)) b.N:=eF fun i _=>by grind
    rw[h3,this];grind
   rw[h2,hl.1];grind
  rw[hsum];rw[e]at he;grind
end Bd
def InR (n:Nat)(S:Nat->Rat)(p:Nat)(y:Rat):Prop:=p<=n/\(∀k,p=k+1->S k<=y)/\(p<n->y<S p)
section
variable {n:Nat}{S M:Nat->Rat}{y:Rat}{p:Nat}
theorem InR.c (h:InR n S p y):I_ n S p y:=⟨h.1,h.2.1,fun hp=>by have:=h.2.2 hp;grind⟩
theorem InR.some (h:Crv n S M)(y:Rat):∀(m:Nat),m<=n->∃p,p<=m/\(∀k,p=k+1->S k<=y)/\(p<m->y<S p)
 |0,_=>⟨0,a_,fun k hk=>by omega,fun hk=>by omega⟩
 |m+1,hm=>by
  by_cases hy:S m<=y
  .exact⟨m+1,a_,fun k hk=>by
    have:k=m:=J
    subst this;exact hy,fun hk=>by omega⟩
  .obtain⟨p,h1,h2,h3⟩:=InR.some h y m J;refine⟨p,J,h2,fun _=>?_⟩;by_cases hp:p<m
   .exact h3 hp
   .have:p=m:=J;subst this;grind
theorem InR.get (h:Crv n S M)(y:Rat):∃p,InR n S p y:=InR.some h y n (a_)
end
namespace Bd
variable {b:Bd}
theorem exclude (h:b.Ok){z t A B:Rat}(hb:b.Bal z t)(hl:∀i,i<b.N->0<A+B*b.X i->b.lim i):b.w*(A+B*b.A)<=aq (fun i=>if 0<A+B*b.X i then b.cap i*(A+B*b.X i) else 0) b.N:=by
 have h1:b.w*(A+B*b.A)=aq (fun i=>b.f z t i*(A+B*b.X i)) b.N:=by
  have h2:=xy (f:=fun i=>b.f z t i*A) (g:=fun i=>b.f z t i*b.X i*B) (n:=b.N);rw[nY (f:=b.f z t),nY (f:=fun i=>b.f z t i*b.X i)]at h2;have h3:aq (fun i=>b.f z t i*(A+B*b.X i)) b.N=aq (fun i=>b.f z t i*A+b.f z t i*b.X i*B) b.N:=eF fun i _=>by grind
  rw[h3,h2];have e1:aq (b.f z t) b.N=b.w:=hb.1;have e2:aq (fun i=>b.f z t i*b.X i) b.N=b.w*b.A:=hb.2;rw[e1,e2];grind
 rw[h1];refine u_ fun i hi=>?_;have hnn:=f_nn h (z:=z) (t:=t) hi;split
 .rename_i hv;have hc:=h.crv i hi;have hle:b.f z t i<=b.cap i:=by
   obtain⟨q,hq⟩:∃q,b.y z t i<=q/\I_ (b.n i) (b.S i) (b.n i) q:=by
    cases hn:b.n i with
    |zero=>exact⟨b.y z t i,ez,⟨a_,fun k hk=>by omega,fun hk=>by omega⟩⟩
    |succ k=>exact⟨b.y z t i+gl (b.S i k-b.y z t i),by simp only[gl];grind,⟨a_,fun k' hk'=>by
      obtain rfl:k=k':=J
      simp only[gl];grind,fun hk=>by omega⟩⟩
   have:=rY hc hq.1;rw[xL hc hq.2 (hl i hi hv)]at this;exact this
  have:=Rat.mul_nonneg (show 0<=b.cap i-b.f z t i by grind) (Rat.le_of_lt hv);grind
 .rename_i hv;have:=Rat.mul_nonneg hnn (show 0 <= -(A+B*b.X i) by grind);grind
end Bd
theorem Gl (q:Rat):q*(q.den:Rat)=q.num:=by
 have hne:((q.den:Int):Rat)≠0:=fun e=>fh q (mr.1 (by simpa using e));have h:=js q;have h2:((q.num:Rat)/((q.den:Int):Rat))*((q.den:Int):Rat)=q.num:=mB hne;rw[<-h,Aj]at h2;exact h2
theorem JX {p q:Rat}{m:Nat}(hp:hq p m)(hq':hq q m)(hne:p<q):1<=(q-p)*((65536^(m+m+1):Nat):Rat):=by
 have h:=(@HQ.sub q p m m ⟨hq'⟩ ⟨hp⟩).ok;generalize hd:q-p=d at *
 have h0:0<d:=bM;have hnum:1<=d.num:=by
  have h1:=Rat.num_nonneg.2 (iq h0);have h2:d.num≠0:=fun e=>by have:=Rat.num_eq_zero.1 e;grind
  omega
 have hdd:=Gl d;have h1:(1:Rat)<=d.num:=by exact_mod_cast hnum
 have h2:(d.den:Rat)<=((65536^(m+m+1):Nat):Rat):=by exact_mod_cast mt h.2
 have h3:=FX h2 (iq h0);grind
theorem JW {q:Rat}{m:Nat}(h:hq q m):q<((65536^m:Nat):Rat) /\ -((65536^m:Nat):Rat)<q:=by
 have hdd:=Gl q;have hd1:(1:Rat)<=(q.den:Rat):=by exact_mod_cast q.den_pos
 have hab:=h.1;generalize 65536^m=V at *
 have hn:q.num<(V:Int) /\ -(V:Int)<q.num:=J;have hn1:(q.num:Rat)<((V:Nat):Rat):=by
  have:=Ae.2 hn.1;rwa [Aj]at this
 have hn2 : -((V:Nat):Rat)<(q.num:Rat):=by
  have:=Ae.2 hn.2;rwa [Rat.intCast_neg,Aj]at this
 have hW:(0:Rat)<=((V:Nat):Rat):=by exact_mod_cast aP _
 generalize ((V:Nat):Rat)=W,(q.den:Rat)=D0 at *
 constructor
 .rcases dD (q<W) with hc|hc
  .exact hc
  .have:=Rat.mul_nonneg (show 0<=q-W by grind) (show 0<=D0 by grind);have:=Rat.mul_nonneg hW (show 0<=D0-1 by grind);grind
 .rcases dD (-W<q) with hc|hc
  .exact hc
  .have:=Rat.mul_nonneg (show 0 <= -W-q by grind) (show 0<=D0 by grind);have:=Rat.mul_nonneg hW (show 0<=D0-1 by grind);grind
namespace Bd
structure Sz (b:Bd):Prop where
 N:b.N<=10
 n:∀i,i<b.N->b.n i<=5
 X:∀i,i<b.N->hq (b.X i) 4
 C:∀i,i<b.N->hq (b.C i) 9
 S:∀i,i<b.N->∀k,k<b.n i->hq (b.S i k) 4
 M:∀i,i<b.N->∀k,k<b.n i->hq (b.M i k) 4
 w:hq b.w 4
 A:hq b.A 8
variable {b:Bd}
theorem Sz.k (h:b.Sz){p:Nat->Nat}(hp:∀i,i<b.N->p i<=b.n i){i:Nat}(hi:i<b.N):HQ (b.k p i) 4:=by
 rw[Bd.k];have h1:=hp i hi;cases hpi:p i with
 |zero=>rw[cE];exact HQ.zero
 |succ m=>exact⟨h.M i hi m J⟩
theorem Sz.bef (h:b.Sz){i:Nat}(hi:i<b.N){k:Nat}(hk:k<b.n i):HQ (cE (b.M i) k) 4:=by
 cases k with
 |zero=>rw[cE];exact HQ.zero
 |succ m=>exact⟨h.M i hi m J⟩
theorem Sz.o (h:b.Sz){p:Nat->Nat}(hp:∀i,i<b.N->p i<=b.n i){i:Nat}(hi:i<b.N):HQ (b.o p i) 74:=by
 rw[Bd.o,o_];have h1:=hp i hi;have h2:=h.n i hi;refine(b9 (m:=13) (p i) fun k hk=>?_).mono J;have:=h.bef hi (k:=k) J;have:HQ (b.M i k) 4:=⟨h.M i hi k J⟩;have:HQ (b.S i k) 4:=⟨h.S i hi k J⟩;show HQ ((b.M i k-cE (b.M i) k)*b.S i k) 13;exact inferInstanceAs (HQ ((b.M i k-cE (b.M i) k)*b.S i k) (4+4+1+4))
theorem Sz.Kh (h:b.Sz){p:Nat->Nat}(hp:∀i,i<b.N->p i<=b.n i):HQ (b.Kh p) 54:=by
 have:=h.N;exact(b9 (m:=4) b.N fun i hi=>h.k hp hi).mono J
theorem Sz.Kc (h:b.Sz){p:Nat->Nat}(hp:∀i,i<b.N->p i<=b.n i):HQ (b.Kc p) 94:=by
 have:=h.N;refine(b9 (m:=8) b.N fun i hi=>?_).mono J;have:=h.k hp hi;have:HQ (b.X i) 4:=⟨h.X i hi⟩;exact inferInstanceAs (HQ (b.k p i*b.X i) (4+4))
theorem Sz.Kp (h:b.Sz){p:Nat->Nat}(hp:∀i,i<b.N->p i<=b.n i):HQ (b.Kp p) 134:=by
 have:=h.N;refine(b9 (m:=12) b.N fun i hi=>?_).mono J;have:=h.k hp hi;have:HQ (b.X i) 4:=⟨h.X i hi⟩;exact inferInstanceAs (HQ (b.k p i*b.X i*b.X i) (4+4+4))
theorem Sz.Fo (h:b.Sz){p:Nat->Nat}(hp:∀i,i<b.N->p i<=b.n i):HQ (b.Fo p) 894:=by
 have:=h.N;refine(b9 (m:=88) b.N fun i hi=>?_).mono J;have:=h.k hp hi;have:=h.o hp hi;have:HQ (b.C i) 9:=⟨h.C i hi⟩;exact inferInstanceAs (HQ (b.k p i*b.C i-b.o p i) (4+9+74+1))
theorem Sz.Go (h:b.Sz){p:Nat->Nat}(hp:∀i,i<b.N->p i<=b.n i):HQ (b.Go p) 934:=by
 have:=h.N;refine(b9 (m:=92) b.N fun i hi=>?_).mono J;have:=h.k hp hi;have:=h.o hp hi;have:HQ (b.C i) 9:=⟨h.C i hi⟩;have:HQ (b.X i) 4:=⟨h.X i hi⟩;exact inferInstanceAs (HQ ((b.k p i*b.C i-b.o p i)*b.X i) (4+9+74+1+4))
theorem Sz.Tm (h:b.Sz){t:Rat}(ht:b.Tm t):hq t 3000:=by
 obtain⟨p,hp,hK,ht⟩:=ht;have h1:=h.Kh hp;have h2:=h.Kc hp;have h3:=h.Kp hp;have h4:=h.Fo hp;have h5:=h.Go hp;have hw:HQ b.w 4:=⟨h.w⟩;have hA:HQ b.A 8:=⟨h.A⟩;rcases ht with⟨i,hi,k,hk,g1,g2⟩|⟨g1,g2⟩
 .have hX:HQ (b.X i) 4:=⟨h.X i hi⟩;have hC:HQ (b.C i) 9:=⟨h.C i hi⟩;have hS:HQ (b.S i k) 4:=⟨h.S i hi k hk⟩;have:t=(b.S i k-b.C i-(b.w-b.Fo p)/b.Kh p)/(b.X i-b.Kc p/b.Kh p):=by
   rw[Bd.y,Bd.ln]at g1;rw[Bd.gr]at g2;grind
  rw[this];have e:HQ ((b.S i k-b.C i-(b.w-b.Fo p)/b.Kh p)/(b.X i-b.Kc p/b.Kh p)) _:=inferInstance;exact e_ e.ok Y
 .have:t=(b.w*b.A-b.Go p-b.Kc p*((b.w-b.Fo p)/b.Kh p))/((b.Kh p*b.Kp p-b.Kc p*b.Kc p)/b.Kh p):=by
   rw[Bd.eln,Bd.ln]at g1;rw[Bd.det]at g2;grind
  rw[this];have e:HQ ((b.w*b.A-b.Go p-b.Kc p*((b.w-b.Fo p)/b.Kh p))/((b.Kh p*b.Kp p-b.Kc p*b.Kc p)/b.Kh p)) _:=inferInstance;exact e_ e.ok Y
def SzT (b:Bd):Prop:=∀t,b.Tm t->hq t 3000
theorem Sz.T (h:b.Sz):b.SzT:=fun _ ht=>h.Tm ht
end Bd
def yL (S:Nat->Rat)(y:Rat):Nat->Nat
 |0=>0
 |m+1=>if S m<y then m+1 else yL S y m
def tJ (S:Nat->Rat)(y:Rat):Nat->Nat
 |0=>0
 |m+1=>if S m<=y then m+1 else tJ S y m
theorem CJ {S:Nat->Rat}{y:Rat}:∀m,yL S y m<=m/\(∀k,yL S y m=k+1->S k<y)/\(yL S y m<m->y<=S (yL S y m))
 |0=>⟨a_,fun k hk=>by simp[yL]at hk,fun h=>by simp[yL]at h⟩
 |m+1=>by
  obtain⟨h1,h2,h3⟩:=CJ (S:=S) (y:=y) m;rw[yL];split
  .rename_i hy;exact⟨a_,fun k hk=>by
    have:k=m:=J
    subst this;exact hy,fun h=>by omega⟩
  .rename_i hy;refine⟨J,h2,fun _=>?_⟩;by_cases hp:yL S y m<m
   .exact h3 hp
   .rw[show yL S y m=m by omega];grind
theorem CM {S:Nat->Rat}{y:Rat}:∀m,tJ S y m<=m/\(∀k,tJ S y m=k+1->S k<=y)/\(tJ S y m<m->y<S (tJ S y m))
 |0=>⟨a_,fun k hk=>by simp[tJ]at hk,fun h=>by simp[tJ]at h⟩
 |m+1=>by
  obtain⟨h1,h2,h3⟩:=CM (S:=S) (y:=y) m;rw[tJ];split
  .rename_i hy;exact⟨a_,fun k hk=>by
    have:k=m:=J
    subst this;exact hy,fun h=>by omega⟩
  .rename_i hy;refine⟨J,h2,fun _=>?_⟩;by_cases hp:tJ S y m<m
   .exact h3 hp
   .rw[show tJ S y m=m by omega];grind
theorem Et {n:Nat}{S:Nat->Rat}{y:Rat}:InL n S (yL S y n) y:=CJ n
theorem Qk {n:Nat}{S:Nat->Rat}{y:Rat}:InR n S (tJ S y n) y:=CM n
theorem InL.uniq {n:Nat}{S M:Nat->Rat}(h:Crv n S M){p q:Nat}{y:Rat}(h1:InL n S p y)(h2:InL n S q y):p=q:=by
 have key:∀ {p q:Nat},InL n S p y->InL n S q y->p<q->False:=by
  intro p q h1 h2 hlt;obtain⟨k,rfl⟩:∃k,q=k+1:=⟨q-1,J⟩;have g1:=h2.2.1 k O;have g2:=h1.2.2 (by have:=h2.1;omega);have:=h.mono_st (i:=p) (j:=k) J (by have:=h2.1;omega);grind
 rcases mm p q with g|g|g
 .exact(key h1 h2 g).elim
 .exact g
 .exact(key h2 h1 g).elim
theorem InR.uniq {n:Nat}{S M:Nat->Rat}(h:Crv n S M){p q:Nat}{y:Rat}(h1:InR n S p y)(h2:InR n S q y):p=q:=by
 have key:∀ {p q:Nat},InR n S p y->InR n S q y->p<q->False:=by
  intro p q h1 h2 hlt;obtain⟨k,rfl⟩:∃k,q=k+1:=⟨q-1,J⟩;have g1:=h2.2.1 k O;have g2:=h1.2.2 (by have:=h2.1;omega);have:=h.mono_st (i:=p) (j:=k) J (by have:=h2.1;omega);grind
 rcases mm p q with g|g|g
 .exact(key h1 h2 g).elim
 .exact g
 .exact(key h2 h1 g).elim
namespace Bd
def pL (b:Bd)(z t:Rat)(i:Nat):Nat:=yL (b.S i) (b.y z t i) (b.n i)
def pR (b:Bd)(z t:Rat)(i:Nat):Nat:=tJ (b.S i) (b.y z t i) (b.n i)
def newt (kh kc kp fo mo:Rat):Option (Rat × Rat):=if kh*kp-kc*kc=0 then none else some ((kp*fo-kc*mo)/(kh*kp-kc*kc),(kh*mo-kc*fo)/(kh*kp-kc*kc))
def tryP (b:Bd)(z t:Rat)(p:Nat->Nat):Option (Rat × Rat):=match newt (b.Kh p) (b.Kc p) (b.Kp p) (b.w-b.F z t) (-(b.e z t)) with
 |none=>none
 |some d=>if b.F (z+d.1) (t+d.2)=b.w/\b.G0 (z+d.1) (t+d.2)=b.w*b.A then some (z+d.1,t+d.2) else none
def guess (b:Bd)(z t:Rat):Option (Rat × Rat):=match b.tryP z t (b.pR z t) with
 |some x=>some x
 |none=>b.tryP z t (b.pL z t)
noncomputable def sg (b:Bd)(t:Rat):Rat:=Classical.epsilon fun z=>b.Least z t
noncomputable def E (b:Bd)(t:Rat):Rat:=b.e (b.sg t) t
open Classical in
noncomputable def dbl (b:Bd)(s:Rat):Nat->Rat->Option Rat
 |0,_=>none
 |n+1,w=>if s*b.E (s*w)<0 then dbl b s n (w+w) else some w
noncomputable def at1 (b:Bd)(t:Rat):Option (Rat × Rat):=if b.E t=0 then some (b.sg t,t) else b.guess (b.sg t) t
noncomputable def bis (b:Bd):Nat->Rat->Rat->Option (Rat × Rat)
 |0,_,_=>none
 |n+1,lo,hi=>match b.at1 ((lo+hi)/2) with
  |some x=>some x
  |none=>if b.E ((lo+hi)/2)<0 then bis b n ((lo+hi)/2) hi else bis b n lo ((lo+hi)/2)
noncomputable def fst3 (b:Bd)(lo hi:Rat):Option (Rat × Rat):=match b.at1 0 with
 |some x=>some x
 |none=>match b.at1 lo with
  |some x=>some x
  |none=>b.at1 hi
variable {b:Bd}
theorem l9 {t:Rat}(h:∃z,b.Least z t):b.Least (b.sg t) t:=Ac h
theorem sg_eq {z t:Rat}(h:b.Least z t):b.sg t=z:=Least.uniq (l9 ⟨z,h⟩) h
theorem Dq {z t:Rat}{p:Nat->Nat}{x:Rat × Rat}(h:b.tryP z t p=some x):b.Bal x.1 x.2:=by
 unfold tryP at h;split at h
 .cases h
 .split at h
  .cases h;assumption
  .cases h
theorem Hw {z t:Rat}{x:Rat × Rat}(h:b.guess z t=some x):b.Bal x.1 x.2:=by
 unfold guess at h;split at h
 .rename_i hx;cases h;exact Dq hx
 .exact Dq h
theorem ue {t:Rat}(hl:∃z,b.Least z t){x:Rat × Rat}(h:b.at1 t=some x):b.Bal x.1 x.2:=by
 unfold at1 at h;split at h
 .rename_i he;cases h;refine⟨(l9 hl).1,?_⟩;rw[E,e]at he;show b.G0 (b.sg t) t=_;grind
 .exact Hw h
theorem Ed (h:b.Ok){lo hi:Rat}(hl:∀t,∃z,b.Least z t)(hlt:lo<hi)(el:b.E lo<0)(eh:0<b.E hi)
  (sep:∀t t',b.Tm t->b.Tm t'->lo<=t->t<=hi->lo<=t'->t'<=hi->t=t'):b.guess (b.sg lo) lo≠none:=by
 have ll:=l9 (hl lo);have hp:b.Inl (b.pL (b.sg lo) lo) (b.sg lo) lo:=fun i _=>Et;obtain⟨t,h1,h2,h3⟩:=JV h hlt ll (l9 (hl hi)) el eh sep hp;have el2:b.e (b.sg lo) lo=b.E lo:=O;rw[guess];generalize hzd:b.sg lo=z0 at *
 generalize hpd:b.pL z0 lo=p at *
 have hK:=ll.K h hp;have hne:b.Kh p≠0:=bM;have hz:=ln_at h ll.1 hp.c hK;have he:b.e z0 lo=b.eln p lo:=by
  have:=hp.c;rw[e,G_at h this,eln,<-hz]
 have htry:b.tryP z0 lo p=some (b.ln p t,t):=by
  have hel:=vS hne lo t;rw[h2]at hel;rw[det]at h3 hel;rw[tryP,newt,if_neg h3];dsimp only;have e2:lo+(b.Kh p * -(b.e z0 lo)-b.Kc p*(b.w-b.F z0 lo))/(b.Kh p*b.Kp p-b.Kc p*b.Kc p)=t:=by
   rw[ll.1,he];grind
  have e1:z0+(b.Kp p*(b.w-b.F z0 lo)-b.Kc p * -(b.e z0 lo))/(b.Kh p*b.Kp p-b.Kc p*b.Kc p)=b.ln p t:=by
   have e3:b.ln p t=z0-b.Kc p/b.Kh p*(t-lo):=by
    rw[hz,ln,ln];grind
   rw[e3,ll.1,he];grind
  rw[e1,e2];exact if_pos h1
 rw[htry];intro hn;split at hn<;>cases hn
theorem vF (h:b.Ok)(hsz:b.SzT)(hl:∀t,∃z,b.Least z t){W:Rat}(hW:W=((65536^(3000+3000+1):Nat):Rat)):∀(n:Nat) (lo hi:Rat),lo<hi->b.E lo<0->0<b.E hi->b.guess (b.sg lo) lo=none->(hi-lo)*W<((2^n:Nat):Rat)->∃x,b.bis n lo hi=some x/\b.Bal x.1 x.2
 |0,lo,hi,hlt,el,eh,hg,hd=>by
  exfalso;have hd1:(hi-lo)*W<1:=by
   rw[Nat.pow_zero]at hd;exact hd
  have hW0:(0:Rat)<=W:=by rw[hW];exact_mod_cast aP _
  refine Ed h hl hlt el eh (fun t t' ht ht' g1 g2 g3 g4=>?_) hg;have k1:=hsz _ ht;have k2:=hsz _ ht';have one:∀ {u v:Rat},hq u 3000->hq v 3000->u<v->v-u<=hi-lo->False:=by
   intro u v hu hv huv hle;have h1:=JX hu hv huv;rw[<-hW]at h1;have h2:=Rat.mul_nonneg (show 0<=(hi-lo)-(v-u) by grind) hW0;grind
  rcases dD (t<t') with hc|hc
  .exact(one k1 k2 hc bM).elim
  .rcases dD (t'<t) with hc'|hc'
   .exact(one k2 k1 hc' bM).elim
   .grind
 |n+1,lo,hi,hlt,el,eh,hg,hd=>by
  have hpow:((2^(n+1):Nat):Rat)=2*((2^n:Nat):Rat):=by
   rw[Nat.pow_succ,Rat.natCast_mul];grind
  rw[hpow]at hd;rw[bis];cases h1:b.at1 ((lo+hi)/2) with
  |some x=>exact⟨x,rfl,ue (hl _) h1⟩
  |none =>
   dsimp only;have h2:b.E ((lo+hi)/2)≠0/\b.guess (b.sg ((lo+hi)/2)) ((lo+hi)/2)=none:=by
    unfold at1 at h1;split at h1
    .cases h1
    .exact⟨‹_›,h1⟩
   split
   .rename_i hE;exact vF h hsz hl hW n _ hi bM hE eh h2.2 bM
   .rename_i hE;exact vF h hsz hl hW n lo _ bM el bM hg bM
def NoTip (b:Bd):Prop:=∀s:Rat,s=1\/s = -1->∀i0,i0<b.N->(∀i,i<b.N->0<s*(b.X i-b.X i0)->b.lim i)->¬aq (fun i=>if 0<s*(b.X i-b.X i0) then b.cap i*(s*(b.X i-b.X i0)) else 0) b.N<b.w*(s*(b.A-b.X i0))
theorem BP (h:b.Ok)(hsz:b.SzT)(hl:∀t,∃z,b.Least z t)(hn:b.NoTip){s:Rat}(hs:s=1\/s = -1){K:Nat}(hK:65536^3000=2^K) :
  ∀(j k:Nat),K<=j+k->k<=K->∃m,m<=K/\b.dbl s (j+1) ((2^k:Nat):Rat)=some ((2^m:Nat):Rat)/\0<=s*b.E (s*((2^m:Nat):Rat)):=by
 intro j
 induction j with
 |zero =>
  intro k h1 h2;obtain rfl:k=K:=J;have hE:¬s*b.E (s*((2^k:Nat):Rat))<0:=by
   intro hlt;obtain⟨i0,g1,g2,g3⟩:=Td h hs (l9 (hl _)) hlt fun t' ht'=>by
    have:=JW (hsz _ ht');rw[hK]at this;rcases hs with rfl|rfl<;>grind
   exact hn s hs i0 g1 g2 g3
  refine⟨k,a_,?_,bM⟩;rw[dbl,if_neg hE]
 |succ j ih =>
  intro k h1 h2;rw[dbl];split
  .rename_i hlt;by_cases hk:k=K
   .subst hk;exfalso;obtain⟨i0,g1,g2,g3⟩:=Td h hs (l9 (hl _)) hlt fun t' ht'=>by
     have:=JW (hsz _ ht');rw[hK]at this;rcases hs with rfl|rfl<;>grind
    exact hn s hs i0 g1 g2 g3
   .have hp:((2^k:Nat):Rat)+((2^k:Nat):Rat)=((2^(k+1):Nat):Rat):=by rw[Nat.pow_succ,Rat.natCast_mul];grind
    rw[hp];exact ih (k+1) J J
  .exact⟨k,h2,O,bM⟩
noncomputable def eqQ (b:Bd)(n:Nat):Option (Rat × Rat):=match b.dbl (-1) n 1,b.dbl 1 n 1 with
 |some wl,some wh=>(match b.fst3 (-wl) wh with
  |some x=>some x
  |none=>b.bis n (-wl) wh)
 |_,_=>none
theorem eq_some (h:b.Ok)(hsz:b.SzT)(hl:∀t,∃z,b.Least z t)(hn:b.NoTip){K n:Nat}(hK:65536^3000=2^K){L:Nat}(hL:65536^(3000+3000+1)=2^L)(hKn:K<n)(hLn:K+1+L<n):∃x,b.eqQ n=some x/\b.Bal x.1 x.2:=by
 obtain⟨j,rfl⟩:∃j,n=j+1:=⟨n-1,J⟩;obtain⟨ml,l1,l2,l3⟩:=BP h hsz hl hn (s := -1) (.inr O) hK j 0 J J;obtain⟨mh,g1,g2,g3⟩:=BP h hsz hl hn (s:=1) (.inl O) hK j 0 J J;rw[show(((2:Nat)^0:Nat):Rat)=1 by rfl]at l2 g2;have hml:((2^ml:Nat):Rat)<=((2^K:Nat):Rat):=by exact_mod_cast gh Y l1
 have hmh:((2^mh:Nat):Rat)<=((2^K:Nat):Rat):=by exact_mod_cast gh Y g1
 have hml0:(0:Rat)<((2^ml:Nat):Rat):=by exact_mod_cast iX Y
 have hmh0:(0:Rat)<((2^mh:Nat):Rat):=by exact_mod_cast iX Y
 have hW0:(0:Rat)<((2^L:Nat):Rat):=by exact_mod_cast iX Y
 have hWL:((2^K:Nat):Rat)*2*((2^L:Nat):Rat)<((2^(j+1):Nat):Rat):=by
  have:2^K*2*2^L<2^(j+1):=by
   rw[<-cW,<-iY];exact Ah Y J
  exact_mod_cast this
 rw[eqQ,l2,g2];dsimp only;generalize ((2^ml:Nat):Rat)=wl,((2^mh:Nat):Rat)=wh,((2^K:Nat):Rat)=wk at *
 cases hf:b.fst3 (-wl) wh with
 |some x =>
  refine⟨x,O,?_⟩;unfold fst3 at hf;split at hf
  .rename_i hx;cases hf;exact ue (hl _) hx
  .split at hf
   .rename_i hx;cases hf;exact ue (hl _) hx
   .exact ue (hl _) hf
 |none =>
  dsimp only;have hno:b.at1 (-wl)=none/\b.at1 wh=none:=by
   unfold fst3 at hf;split at hf
   .cases hf
   .split at hf
    .cases hf
    .exact⟨‹_›,hf⟩
  have key:∀t,b.at1 t=none->b.E t≠0/\b.guess (b.sg t) t=none:=by
   intro t h1;unfold at1 at h1;split at h1
   .cases h1
   .exact⟨‹_›,h1⟩
  obtain⟨e1,e2⟩:=key _ hno.1;obtain⟨e3,e4⟩:=key _ hno.2;rw[show(-1:Rat)*wl = -wl by grind]at l3;rw[show(1:Rat)*wh=wh by grind]at g3;refine vF h hsz hl (W:=((2^L:Nat):Rat)) (by rw[hL]) (j+1) (-wl) wh bM bM bM e2 ?_;have h1:=Rat.mul_nonneg (show 0<=wk-wl by grind) (Rat.le_of_lt hW0);have h2:=Rat.mul_nonneg (show 0<=wk-wh by grind) (Rat.le_of_lt hW0);generalize ((2^L:Nat):Rat)=W at *
  grind
end Bd
def ig:List (Rat × Rat)->Rat->Rat
 |[],_=>0
 |x::l,z=>x.2*gl (z-x.1)+ig l z
def qQ:List (Rat × Rat)->Rat
 |[]=>0
 |x::l=>x.2+qQ l
theorem nL (l m:List (Rat × Rat))(z:Rat):ig (l++m) z=ig l z+ig m z:=by
 induction l with
 |nil=>rw[List.nil_append,ig];grind
 |cons x l ih=>rw[List.cons_append,ig,ig,ih];grind
theorem BO (l m:List (Rat × Rat)):qQ (l++m)=qQ l+qQ m:=by
 induction l with
 |nil=>rw[List.nil_append,qQ];grind
 |cons x l ih=>rw[List.cons_append,qQ,qQ,ih];grind
theorem HS {l m:List (Rat × Rat)}(h:l.Perm m)(z:Rat):ig l z=ig m z:=by
 induction h with
 |nil=>rfl
 |cons x _ ih=>rw[ig,ig,ih]
 |swap x y l=>simp only[ig];grind
 |trans _ _ h1 h2=>rw[h1,h2]
theorem p_ {l:List (Rat × Rat)}{z:Rat}(h:∀x∈l,z<=x.1):ig l z=0:=by
 induction l with
 |nil=>rfl
 |cons x l ih =>
  have h1:=h x ao;rw[ig,ih fun y hy=>h y (by simp[hy]),gl,if_neg bM];grind
theorem tB {l:List (Rat × Rat)}{a z:Rat}(h:∀x∈l,x.1<=a)(hz:a<=z):ig l z=ig l a+qQ l*(z-a):=by
 induction l with
 |nil=>simp only[ig,qQ];grind
 |cons x l ih =>
  have h1:=h x ao;have e1:gl (z-x.1)=z-x.1:=by rw[gl];grind
  have e2:gl (a-x.1)=a-x.1:=by rw[gl];grind
  simp only[ig,qQ];rw[ih fun y hy=>h y (by simp[hy]),e1,e2];grind
def I8 (w:Rat):List (Rat × Rat)->Rat->Rat->Rat->Rat
 |[],c,k,a=>if 0<k then a+(w-c)/k else a
 |x::l,c,k,a=>if 0<k then(if w<=c+k*(x.1-a) then a+(w-c)/k else I8 w l (c+k*(x.1-a)) (k+x.2) x.1) else I8 w l c (k+x.2) x.1
theorem O8 {Φ:Rat->Rat}{w c k a:Rat}(hm:∀x y,x<=y->Φ x<=Φ y)(ha:Φ a=c)(hc:c<w)(hk:0<k)(hu:∀z,a<=z->z<=a+(w-c)/k->Φ z=c+k*(z-a)):Φ (a+(w-c)/k)=w/\∀z',z'<a+(w-c)/k->Φ z'<w:=by
 have hq:(w-c)/k*k=w-c:=mB bM;have h0:0<=(w-c)/k:=by rw[oK];exact ka bM (iq (uO.2 hk))
 generalize (w-c)/k=d at *
 refine⟨by rw[hu _ bM Rat.le_refl];grind,fun z' hz=>?_⟩;rcases dD (a<=z') with h|h
 .rw[hu z' h bM];have:=Rat.mul_pos hk (show 0<a+d-z' by grind);grind
 .have:=hm z' a bM;grind
theorem QK {w:Rat}{Φ:Rat->Rat}(hm:∀x y,x<=y->Φ x<=Φ y)(hw:0<w)(hex:∃z,w<=Φ z):∀(R P:List (Rat × Rat)) (c k a:Rat),(∀z,Φ z=ig P z+ig R z)->R.Pairwise (fun x y=>x.1<=y.1) ->
  ((P=[]/\c=0/\k=0)\/((∀x∈P,x.1<=a)/\(∀x∈R,a<=x.1)/\Φ a=c/\c<w/\k=qQ P))->Φ (I8 w R c k a)=w/\∀z',z'<I8 w R c k a->Φ z'<w:=by
 intro R
 induction R with
 |nil =>
  intro P c k a hΦ _ h;obtain⟨z0,hz0⟩:=hex;rcases h with⟨rfl,rfl,rfl⟩|⟨h1,_,h3,h4,h5⟩
  .exfalso;rw[hΦ]at hz0;simp only[ig]at hz0;grind
  .have hline:∀z,a<=z->Φ z=c+k*(z-a):=fun z hz=>by
    have e1:=hΦ z;have e2:=hΦ a;rw[tB h1 hz,<-h5]at e1;simp only[ig]at e1 e2;grind
   rw[I8];split
   .rename_i hk;exact O8 hm h3 h4 hk fun z hz _=>hline z hz
   .rename_i hk;exfalso;rcases dD (a<=z0) with hz|hz
    .rw[hline z0 hz]at hz0;have:=Rat.mul_nonneg (show 0 <= -k by grind) (show 0<=z0-a by grind);grind
    .have:=hm z0 a bM;grind
 |cons x R ih =>
  intro P c k a hΦ hs h;rw[oE]at hs;have hΦ':∀z,Φ z=ig (P++[x]) z+ig R z:=fun z=>by
   rw[hΦ,nL];simp only[ig];grind
  rcases h with⟨rfl,rfl,rfl⟩|⟨h1,h2,h3,h4,h5⟩
  .rw[I8,if_neg bM];refine ih ([]++[x]) 0 (0+x.2) x.1 hΦ' hs.2 (.inr ⟨fun y hy=>by simp at hy;subst hy;exact Rat.le_refl,fun y hy=>hs.1 y hy,?_,hw,by simp only[qQ,List.nil_append];grind⟩);rw[hΦ,p_ (l:=x::R) fun y hy=>?_]
   .simp only[ig];grind
   .rcases cG.1 hy with rfl|hy
    .exact ez
    .exact hs.1 y hy
  .have hax:=h2 x ao;have hline:∀z,a<=z->z<=x.1->Φ z=c+k*(z-a):=fun z hz hzx=>by
    have e1:=hΦ z;have e2:=hΦ a;rw[tB h1 hz,<-h5,p_ (l:=x::R) fun y hy=>?_]at e1
    .rw[p_ (l:=x::R) fun y hy=>h2 y hy]at e2;grind
    .rcases cG.1 hy with rfl|hy
     .exact hzx
     .have:=hs.1 y hy;grind
   have hx1:=hline x.1 hax ez;have hP:∀y∈P++[x],y.1<=x.1:=fun y hy=>by
    rcases i5.1 hy with hy|hy
    .have:=h1 y hy;grind
    .simp at hy;subst hy;exact ez
   have hcs:k+x.2=qQ (P++[x]):=by rw[BO,<-h5];simp only[qQ];grind
   rw[I8];split
   .rename_i hk;split
    .rename_i hle;refine O8 hm h3 h4 hk fun z hz hz2=>hline z hz ?_;have hq:(w-c)/k*k=w-c:=mB bM;generalize (w-c)/k=d at *
     rcases dD (z<=x.1) with hc|hc
     .exact hc
     .have:=Rat.mul_pos hk (show 0<a+d-x.1 by grind);grind
    .rename_i hlt;exact ih (P++[x]) _ _ _ hΦ' hs.2 (.inr ⟨hP,fun y hy=>hs.1 y hy,hx1,bM,hcs⟩)
   .rename_i hk;have h6:=hm a x.1 hax;have h7:=Rat.mul_nonneg (show 0 <= -k by grind) (show 0<=x.1-a by grind);exact ih (P++[x]) _ _ _ hΦ' hs.2 (.inr ⟨hP,fun y hy=>hs.1 y hy,bM,h4,hcs⟩)
namespace Bd
variable {b:Bd}
def bnd1 (b:Bd)(t:Rat)(i:Nat):List (Rat × Rat):=(List.range (b.n i)).map fun k=>(b.S i k-(b.C i+t*b.X i),b.M i k-cE (b.M i) k)
def bnds (b:Bd)(t:Rat):List (Rat × Rat):=(List.range b.N).flatMap (b.bnd1 t)
theorem Jo (b:Bd)(z t:Rat)(i:Nat):ig (b.bnd1 t i) z=b.f z t i:=by
 have key:∀m,ig ((List.range m).map fun k=>(b.S i k-(b.C i+t*b.X i),b.M i k-cE (b.M i) k)) z=aq (fU (b.S i) (b.M i) (b.y z t i)) m:=by
  intro m
  induction m with
  |zero=>rfl
  |succ m ih =>
   rw[AC,bc,nL,ih,aq,sU];simp only[iD,gY,ig];rw[show z-(b.S i m-(b.C i+t*b.X i))=b.y z t i-b.S i m by rw[y];grind];grind
 exact key (b.n i)
theorem Jp (b:Bd)(z t:Rat):ig (b.bnds t) z=b.F z t:=by
 have key:∀m,ig ((List.range m).flatMap (b.bnd1 t)) z=aq (b.f z t) m:=by
  intro m
  induction m with
  |zero=>rfl
  |succ m ih =>
   rw[AC,uz,nL,ih,aq];simp only[j7,List.flatMap_nil,b8,Jo]
 exact key b.N
theorem settled_least (h:b.Ok){t:Rat}(hex:∃z,b.w<=b.F z t){l:List (Rat × Rat)}(hp:l.Perm (b.bnds t))(hs:l.Pairwise fun x y=>x.1<=y.1):b.Least (I8 b.w l 0 0 0) t:=by
 refine QK (Φ:=fun z=>b.F z t) (fun x y hxy=>Pt h hxy) h.pos hex l [] 0 0 0 (fun z=>?_) hs (.inl ⟨O,O,O⟩);rw[HS hp,Jp,ig];grind
theorem M5 (_h:b.Ok)(t:Rat):∃z0:Rat,∀z,z0<=z->b.Inc b.n z t:=by
 have key:∀m,m<=b.N->∃z0:Rat,∀z,z0<=z->∀i,i<m->I_ (b.n i) (b.S i) (b.n i) (b.y z t i):=by
  intro m
  induction m with
  |zero=>exact fun _=>⟨0,fun _ _ i hi=>by omega⟩
  |succ m ih =>
   intro hm;obtain⟨z0,h1⟩:=ih J;cases hn:b.n m with
   |zero =>
    refine⟨z0,fun z hz i hi=>?_⟩;by_cases he:i<m
    .exact h1 z hz i he
    .obtain rfl:i=m:=J;exact⟨a_,fun k hk=>by omega,fun hk=>by omega⟩
   |succ k =>
    obtain⟨u,g0,g1,g2⟩:=vB z0 (b.S m k-(b.C m+t*b.X m));refine⟨u,fun z hz i hi=>?_⟩;by_cases he:i<m
    .exact h1 z bM i he
    .obtain rfl:i=m:=J;refine⟨a_,fun k' hk'=>?_,fun hk=>by omega⟩;obtain rfl:k=k':=J;rw[y];grind
 exact key b.N (a_)
theorem enough (h:b.Ok)(t:Rat)(hd:¬((∀i,i<b.N->b.lim i)/\aq b.cap b.N<b.w)):∃z,b.w<=b.F z t:=by
 obtain⟨z0,h0⟩:=M5 h t;rcases dD (∀i,i<b.N->b.lim i) with hl|hl
 .have hc:b.w<=aq b.cap b.N:=by
   rcases dD (aq b.cap b.N<b.w) with hc|hc
   .exact absurd ⟨hl,hc⟩ hd
   .grind
  refine⟨z0,?_⟩;have:b.F z0 t=aq b.cap b.N:=eF fun i hi=>xL (h.crv i hi) (h0 z0 ez i hi) (hl i hi);rw[this];exact hc
 .obtain⟨i,hi,hn⟩:∃i,i<b.N/\¬b.lim i:=by
   rcases dD (∃i,i<b.N/\¬b.lim i) with hx|hx
   .exact hx
   .exact absurd (fun i hi=>by
     rcases dD (b.lim i) with hc|hc
     .exact hc
     .exact absurd ⟨i,hi,hc⟩ hx) hl
  have hpos:0<b.k b.n i:=by
   have:=Ji (h.crv i hi) (ke (b.n i));have h2:cE (b.M i) (b.n i)≠0:=hn;rw[k];grind
  obtain⟨u0,hu⟩:=oA (g:=b.k b.n i) (c:=b.k b.n i*(b.C i+t*b.X i)-b.o b.n i) (B:=b.w) hpos;obtain⟨z,_,g1,g2⟩:=vB z0 u0;refine⟨z,?_⟩;have h1:=hu z g2;have h2:=f_at h (h0 z g1) hi;have h3:=rT (f:=b.f z t) (fun k hk=>f_nn h hk) hi;rw[y]at h2;rw[F];grind
end Bd
def uQ (n:Nat)(S:Nat->Rat)(y:Rat)(k:Nat):Rat:=gl (jk S n y k-S k)
def Qi (n:Nat)(S M:Nat->Rat)(y:Rat)(k:Nat):Rat:=M k*(uQ n S y k*(y-S k)-uQ n S y k*uQ n S y k/2)
def Tk (n:Nat)(S M:Nat->Rat)(y:Rat):Rat:=aq (Qi n S M y) n
namespace Bd
variable {b:Bd}
def U (b:Bd)(z t:Rat):Rat:=aq (fun i=>Tk (b.n i) (b.S i) (b.M i) (b.y z t i)) b.N-b.w*(z+t*b.A)
end Bd
def lk (S M:Nat->Rat)(y:Rat)(k:Nat):Rat:=if y-S k<0 then 0 else M k-cE M k
def LD (n:Nat)(S M:Nat->Rat)(y:Rat):Rat:=aq (lk S M y) n
theorem NS {c:CR}(hc:c.Lim)(q:Rat)(k:Nat):HQ (lk c.s c.m q k) 27:=by
 rw[lk];split
 .exact HQ.zero.mono J
 .exact wN hc k
noncomputable def Q1:Array Tmp × Code × Code:=(tv ((Tryz.f281.body).getD .skip)).getD (#[],.skip,.skip)
theorem Dd {s0:St}{q0 q2 q3 g4 g7 b4:Nat}{x2 x3 x1004:Cont}{bf V0 V1 CH FA:RR}(hadd:aO 91 [.agg (eR V0),.agg (eR CH)] (.agg (eR V1))) :
  GA Tryz.prog (s0.over [(7,.ptr 1007 g7 0 0)] []) q0 q2 q3 g4 g7 b4 19 20 Q1.2.1 Q1.2.2 x2 x3 x1004 bf V0 V1 CH FA:=by
 intro own hf vo hPost;have ho:own=(St.over { reg:=fun _ => .raw undef,own:=own } [] (O_ q0 q2 q3 g4 g7 b4 (dN #[19,20] Q1.2.1 Q1.2.2 .ready none (s0.over [(7,.ptr 1007 g7 0 0)] []).reg) x2 x3 x1004 bf V0)).own:=congrArg St.own (Fit.over hf).symm;rw[ho];clear ho hf;generalize (St.mk (fun _ => .raw undef) own)=s1;refine H ?_;refine⟨O,?_⟩;refine G hadd ?_;refine H ?_;exact hPost _ ⟨O,O,O,O,O,O,trivial⟩
theorem IA (c:CR)(hc:c.Lim)(h0:eL c=0)(y:RR){q:Rat}{n:Nat}[hy:Vq y q n](hn:n<=100000):aO 281 [.agg (eC c),.agg (eR y)] (.tup [.agg (eR (ofQ (LD c.S.length c.s c.m q))),I 0]):=by
 have hcc:=iS c hc;rw[h0]at hcc;obtain⟨h40,hSM,-,hasc⟩:=ic h0;have hz:=jw 0 Y Y;rw[show(((0:Int):Rat))=0 from O]at hz;have hsum:∀i,i<=40->Vq (ofQ (aq (lk c.s c.m q) i)) (aq (lk c.s c.m q) i) (i*(27+1)+4):=fun i _=>Vq.ofQ (h:=b9 i fun k _=>NS hc q k);refine Ret.of_pwpR layOk mixed Go.Proofs.Tryz.func281 O Y O O O ?_;refine aj hcc ?_;refine G hz ?_;refine cN 5 ?_;refine am (Ghost.move (k:=2) (k':=1002) (t:=2) O O O O) ?_;refine am (Ghost.move (k:=3) (k':=1003) (t:=3) O O O O) ?_;refine am (Ghost.move (k:=4) (k':=1004) (t:=4) O O O O) ?_;refine am (Ghost.move (k:=7) (k':=1007) (t:=7) O O O O) ?_
 (refine cN 5 ?_;refine aU 2 ?_)
 iterate 2 refine iH O ?_
 refine bH ?_;refine bC O (cS layOk O O Go.Proofs.Tryz.func284 O Y O O ?_);refine cN 1 ?_;refine am (Ghost.move (k:=2) (k':=2002) (t:=2) O O O O) ?_;refine am (Ghost.move (k:=3) (k':=2003) (t:=3) O O O O) ?_;refine H ?_;refine zQ O O ?_;refine aW ?_;refine H ?_;refine aT [(7,.ptr 1007 1 0 0),(4,.ptr 1004 1 0 0),(18,.clo 291 [.ptr 2002 1 0 0,.ptr 2003 1 0 0])] [(2002,1,⟨134,2,[eC c],2⟩),(2003,1,⟨42,4,[eR y],2⟩),(1004,1,⟨42,4,[[.bool false,.nil,.bool false,.nil]],2⟩),(1007,1,⟨42,4,[eR (ofQ 0)],2⟩)] ⟨O,O,O,O,O,O,O,trivial⟩ ?_;intro s3;refine CP (yR (ps:=#[19,20]) (asg:=Q1.2.1) (body:=Q1.2.2) 2000 O Go.Proofs.Tryz.func291 O O O O O O ?_);generalize hq0:(s3.own 2000).1+1=q0;refine wY (q:=q) (n:=n) (q0:=q0) (q2:=1) (q3:=1) (g4:=1) (g7:=1) c hc y hy J hSM (fun i=>ofQ (aq (lk c.s c.m q) i)) _ ⟨by rw[<-hq0];rfl,O,O,O,O,trivial⟩ ?_ ?_
 .intro i hi hpos b4 bf;have hadd:=eY (ofQ (aq (lk c.s c.m q) i)) (ofQ (c.m i-cE c.m i)) (hx:=hsum i J) (hy:=Vq.ofQ (h:=wN hc i)) J Y;rw[show aq (lk c.s c.m q) i+(c.m i-cE c.m i)=aq (lk c.s c.m q) (i+1) by rw[aq,lk,if_neg hpos]]at hadd;exact Dd (s0:=s3.over [(4,.ptr 1004 1 0 0),(18,.clo 291 [.ptr 2002 1 0 0,.ptr 2003 1 0 0])] []) hadd
 .intro i hi hor b4 bf s2 hf;have hres:aq (lk c.s c.m q) i=LD c.S.length c.s c.m q:=yP hasc (fun k hk=>by rw[lk,if_pos hk]) hi hor;dsimp only at hf;rw[hres]at hf;rw[<-Fit.over (l:=[]) hf];exact bW
def Weak (a b:PV):Prop:=∀(w:World) (ok:Nat->Prop) (v:Value),DRep w ok a v->DRep w ok b v
theorem Weak.rfl (a:PV):Weak a a:=fun _ _ _ h=>h
theorem Weak.nil:Weak .nil (.sl []):=fun w ok v h=>by cases h;exact .sl0 none 0
inductive WeakL:List PV->List PV->Prop
 |nil:WeakL [] []
 |cons {a b:PV} {l m:List PV}:Weak a b->WeakL l m->WeakL (a::l) (b::m)
theorem WeakL.refl:∀l,WeakL l l
 |[] => .nil
 |a::l => .cons (.rfl a) (WeakL.refl l)
theorem WeakL.spec {l m:List PV}(h:WeakL l m):l.length=m.length/\∀(i:Nat) (b:PV),m[i]? = some b->∃a,l[i]? = some a/\Weak a b:=by
 induction h with
 |nil=>exact⟨by rfl,fun i b hb=>by simp at hb⟩
 |cons h1 _ ih =>
  refine⟨by simp[ih.1],fun i b hb=>?_⟩;cases i with
  |zero=>simp at hb;subst hb;exact⟨_,by rfl,h1⟩
  |succ i=>simpa using ih.2 i b (by simpa using hb)
theorem WeakL.agg {l m:List PV}(h:WeakL l m):Weak (.agg l) (.agg m):=fun w ok v hv=>by
 cases hv with
 |agg _ vs hl hd =>
  refine .agg _ vs (by rw[<-h.spec.1];exact hl) fun i c u hc hu=>?_;obtain⟨a,ha,hw⟩:=h.spec.2 i c hc;exact hw _ _ _ (hd i a u ha hu)
theorem WeakL.tup {l m:List PV}(h:WeakL l m):Weak (.tup l) (.tup m):=fun w ok v hv=>by
 cases hv with
 |tup _ vs hl hd =>
  refine .tup _ vs (by rw[<-h.spec.1];exact hl) fun i c u hc hu=>?_;obtain⟨a,ha,hw⟩:=h.spec.2 i c hc;exact hw _ _ _ (hd i a u ha hu)
theorem Ret.weak {P:Program}{m:Mode}{f:FuncId}{pargs pargs':List PV}{r r':PV}(h:Ret P m f pargs r')(ha:WeakL pargs' pargs)(hr:Weak r' r):Ret P m f pargs' r:=by
 obtain⟨hc,h⟩:=h;refine⟨hc,fun w X args hg hX hl hargs=>?_⟩;refine(h w X args hg hX (by rw[<-ha.spec.1];exact hl) fun i c v e1 e2=>?_).mono ?_
 .obtain⟨a,e3,hw⟩:=ha.spec.2 i c e1;exact hw _ _ _ (hargs i a v e3 e2)
 .rintro e w' ⟨u,h1,h2,h3⟩;exact⟨u,h1,h2,hr _ _ _ h3⟩
def zN:List PV:=[.bool false,.nil,.bool false,.nil]
theorem ff:WeakL zN (eR RR.zero) := .cons (.rfl _) (.cons .nil (.cons (.rfl _) (.cons .nil .nil)))
theorem cC (z:Int)(h:i64 z):aO 199 [I z] (.agg (eR (ofQ (z:Rat)))):=by
 have ho:=AO z h.1 h.2;have hw:=oY (du z) (by have:=nO (z:=z) (by obtain⟨h1,h2⟩:=h;omega);omega);rw[di]at hw;generalize ofQ (z:Rat)=X,du z=Z at *
 refine ax Proofs.Tryz.func199 ?_;refine G ho ?_;refine G hw ?_;exact bW
theorem xi (x:RR){p:Rat}{n:Nat}[hx:Vq x p n](hn:n<=8000000):aO 202 [.agg (eR x)] (I (sgn p)):=by
 have hc:=kw x RR.zero hn Y;rw[mD,uM,jN]at hc;have hc2:=hc.weak (.cons (.rfl _) (.cons ff.agg .nil)) (.rfl _);generalize sgn p=g at *
 refine ax Proofs.Tryz.func202 ?_;refine aj hc2 ?_;exact co
theorem CB (x y:RR){p q:Rat}{n m:Nat}[hx:Vq x p n][hy:Vq y q m](hn:n<=20000000)(hm:m<=20000000)(h0:q≠0):aO 207 [.agg (eR x),.agg (eR y)] (.agg (eR (ofQ (p/q)))):=by
 have hq:=CQ x y hn hm;rw[if_neg h0]at hq;generalize ofQ (p/q)=X at *
 refine ax Proofs.Tryz.func207 ?_;refine G hq ?_;exact bW
theorem RD (x:RR){p:Rat}{n:Nat}[hx:Vq x p n](hn:n<=10000000):aO 205 [.agg (eR x)] (.agg (eR (ofQ (-p)))):=by
 have hs:=np RR.zero x Y hn;rw[mD,Rat.zero_add]at hs;have hs2:=hs.weak (.cons ff.agg (.cons (.rfl _) .nil)) (.rfl _);generalize ofQ (-p)=X at *
 refine ax Proofs.Tryz.func205 ?_;refine G hs2 ?_;exact bW
theorem Nh (x:RR){p:Rat}{n:Nat}[hx:Vq x p n](hn:n<=10000000):aO 233 [.agg (eR x)] (.agg (eR (ofQ p))):=by
 have hs:=eY x RR.zero J Y;rw[jN]at hs;have hs2:=hs.weak (.cons (.rfl _) (.cons ff.agg .nil)) (.rfl _);generalize ofQ p=X at *
 refine ax Proofs.Tryz.func233 ?_;refine G hs2 ?_;exact bW
structure SR.Lim (s:SR):Prop where
 x:i64 s.x
 c:s.c.sz 12
 k:s.k.Lim
def yQ (s:SR)(z t:Rat):Rat:=s.c.val+(z+t*(s.x:Rat))
theorem DB {s:SR}(hs:s.Lim){z t:Rat}{n m:Nat}(hz:HQ z n)(ht:HQ t m):HQ (yQ s z t) (13+(n+(m+4)+1)+1):=by
 have hx:Zb s.x:=aJ hs.x.1 hs.x.2;exact @HQ.add _ _ 13 (n+(m+4)+1) hs.c.v.hq (@HQ.add _ _ n (m+4) hz (@HQ.mul _ _ m 4 ht HQ.int))
structure AR where
 z:RR
 t:RR
def eA (a:AR):List PV:=eR a.z++eR a.t
class Va (a:AR) (z t:outParam Rat) (n m:outParam Nat):Prop where
 z:Vq a.z z n
 t:Vq a.t t m
theorem sj (s:SR)(hs:s.Lim)(a:AR){z t:Rat}{n m:Nat}[ha:Va a z t n m](hn:n<=1000000)(hm:m<=1000000):aO 259 [.agg (eS s),.agg (eA a)] (.agg (eR (ofQ (yQ s z t)))):=by
 have hx:Zb s.x:=aJ hs.x.1 hs.x.2;have hzh:=ha.z.hq;have hth:=ha.t.hq;have hw:=cC s.x hs.x;have h1:=i7 a.t (ofQ (s.x:Rat)) (hx:=ha.t) J Y;have v1:Vq (ofQ (t*(s.x:Rat))) (t*(s.x:Rat)) (m+1+4):=Vq.ofQ (h:=@HQ.mul _ _ (m+1) 4 hth HQ.int);have h2:=eY a.z (ofQ (t*(s.x:Rat))) (hx:=ha.z) (hy:=v1) J J;have v2:Vq (ofQ (z+t*(s.x:Rat))) (z+t*(s.x:Rat)) (n+1+(m+1+4)+1):=Vq.ofQ (h:=@HQ.add _ _ (n+1) (m+1+4) hzh (@HQ.mul _ _ (m+1) 4 hth HQ.int));have h3:=eY s.c (ofQ (z+t*(s.x:Rat))) (hx:=hs.c.v) (hy:=v2) Y J;rw[yQ];obtain⟨x,c,k⟩:=s;obtain⟨az,at'⟩:=a;simp only at *
 generalize ofQ (c.val+(z+t*(x:Rat)))=X3,ofQ (z+t*(x:Rat))=X2,ofQ (t*(x:Rat))=X1,ofQ (x:Rat)=X0 at *
 refine ax Proofs.Tryz.func259 ?_;refine cO 12 [5,6,7,8,9,10,11,12,13,14,15,16] ?_;refine G hw ?_;refine G h1 ?_;refine G h2 ?_;refine G h3 ?_;exact bW
def fQ (s:SR)(z t:Rat):Rat:=kR s.k.S.length s.k.s s.k.m (yQ s z t)
theorem Hv (s:SR)(hs:s.Lim)(hk:eL s.k=0)(a:AR){z t:Rat}{n m:Nat}[ha:Va a z t n m](hn:n+m<=90000):aO 213 [.agg (eS s),.agg (eA a)] (.agg (eR (ofQ (fQ s z t)))):=by
 have h1:=sj s hs a J J;have v1:Vq (ofQ (yQ s z t)) (yQ s z t) (13+(n+1+(m+1+4)+1)+1):=Vq.ofQ (h:=DB hs ha.z.hq ha.t.hq);have h2:=IR s.k hs.k hk (ofQ (yQ s z t)) (hy:=v1) J;rw[fQ];generalize ofQ (kR s.k.S.length s.k.s s.k.m (yQ s z t))=X2,ofQ (yQ s z t)=X1 at *
 obtain⟨x,c,k⟩:=s;obtain⟨az,at'⟩:=a;simp only at *
 refine ax Proofs.Tryz.func213 ?_;refine H ?_;refine bj [5] [9,10] aK ?_;refine G h1 ?_;refine G h2 ?_;exact bW
theorem M6 (x:Int):aO 244 [I x] (.bool (decide (x < -1000000\/1000000<x))):=by
 by_cases h1:x < -1000000
 .rw[decide_eq_true (.inl h1)];refine ax Proofs.Tryz.func244 ?_;refine eW ?_ ?_<;>intro h
  .exact fC
  .exact absurd h1 (aE h)
 .rw[show decide (x < -1000000\/1000000<x)=decide (1000000<x) by rw[decide_eq_decide];omega];refine ax Proofs.Tryz.func244 ?_;refine eW ?_ ?_<;>intro h
  .exact absurd (aB h) h1
  .exact fC
theorem vE (x:RR){p:Rat}{m:Nat}[hx:Vq x p m](hm:m<=1000000)(n:Int)(h0:0<=n)(h1:n<=1000000000):aO 197 [.agg (eR x),I n] (.bool (decide (p < -(n:Rat)\/(n:Rat)<p))):=by
 have hw1:=cC (-n) ⟨J,J⟩;have hw2:=cC n ⟨J,J⟩;have z1:Zb (-n):=aJ J J;have z2:Zb n:=aJ J J;have hc1:=kw x (ofQ ((-n:Int):Rat)) J Y;have hc2:=kw x (ofQ (n:Rat)) J Y;have hn:IntKind.i64.wrap (0-n) = -n:=by rw[wrap_i64 J J];omega
 have e1:=cX (p-((-n:Int):Rat));have e2:=fP (p-(n:Rat));have en:(((-n:Int)):Rat) = -(n:Rat):=by push_cast;rfl
 have key:decide (p < -(n:Rat)\/(n:Rat)<p)=(decide (sgn (p-((-n:Int):Rat))<0)||decide (0<sgn (p-(n:Rat)))):=by
  rw[<-Bool.decide_or,decide_eq_decide,e1,e2,en];constructor
  .rintro(h|h)
   .left;grind
   .right;grind
  .rintro(h|h)
   .left;grind
   .right;grind
 rw[key];generalize sgn (p-((-n:Int):Rat))=g1,sgn (p-(n:Rat))=g2,ofQ ((-n:Int):Rat)=W1,ofQ (n:Rat)=W2 at *
 refine ax Proofs.Tryz.func197 ?_;refine cO 14 [5,6,7,8,9,10,11,12,13,14,15,16,17,4] ?_;refine H ?_;rw[hn];refine sT O O O hw1 O O ?_;refine aj hc1 ?_;refine eW ?_ ?_<;>intro h
 .rw[h];clear h;exact fC
 .rw[h];clear h;refine G hw2 ?_;refine aj hc2 ?_;exact fC
def fE {α:Type}(f:α->Int):List α->Int
 |[]=>0
 |s::r=>if f s=0 then fE f r else f s
theorem B4 {α:Type}(f:α->Int){l:List α}{i:Nat}{s:α}(h:l[i]? = some s):fE f (l.drop i)=if f s=0 then fE f (l.drop (i+1)) else f s:=by
 obtain⟨hl,rfl⟩:=bV h;rw[iZ hl,fE]
theorem pO {α:Type}{f:α->Int}:∀ {l:List α},fE f l=0->∀s∈l,f s=0
 |[],_,s,hs=>by cases hs
 |a::l,h,s,hs=>by
  rw[fE]at h;by_cases ha:f a=0
  .rw[if_pos ha]at h;rcases cG.1 hs with rfl|hs
   .exact ha
   .exact pO h s hs
  .rw[if_neg ha]at h;exact absurd h ha
def rU (s:SR):Int:=if (s.x < -1000000\/1000000<s.x)\/(s.c.val < -((10000000:Int):Rat)\/((10000000:Int):Rat)<s.c.val) then 2 else eL s.k
def dV (l:List SR):Int:=if 100<l.length then 8 else fE rU l
def ma (l:List SR):Prop:=(∀s∈l,s.Lim)/\l.length<=1000000000
theorem yk (l:List SR)(hl:ma l):aO 198 [.sl (l.map eS)] (I (dV l)):=by
 have hml:(l.map eS).length=l.length:=ao;generalize hE:dV l=E;rw[dV]at hE;obtain⟨hs,hll⟩:=hl;refine ax Proofs.Tryz.func198 ?_;refine D ?_ ?_<;>intro h
 .have h1:=aB h;rw[if_pos J]at hE;subst hE;exact co
 have h1:¬100<l.length:=by have h1:=aE h;omega
 clear h;rw[if_neg h1]at hE;refine H ?_;refine ah (fun i:Nat=>i<=l.length/\fE rU (l.drop i)=E) (fun i=>[(9,.sl (l.map eS)),(10,I l.length),(11,I (i:Nat))]) (fun _=>[]) (fun i=>l.length-i) 0 ⟨aP _,by rw[ep];exact hE⟩ ⟨O,by rw[<-hml];rfl,O,trivial⟩ ?_;intro i s ⟨hi,hF⟩;refine D ?_ ?_<;>intro h
 .have hlt:i<l.length:=by have:=aB h;omega
  clear h;obtain⟨x,hx⟩:=aC hlt;have hx':=hs x (bm hx);rw[B4 _ hx]at hF;have hfa:=M6 x.x;have hbe:=vE x.c (hx:=hx'.c.v) Y 10000000 Y Y;have hcc:=iS x.k hx'.k;have hw:=fg i;have hse:rU x=rU x:=O
  conv at hse=>rhs;rw[rU]
  generalize rU x=se,eL x.k=ce at *
  by_cases hq1:x.x < -1000000\/1000000<x.x
  .rw[decide_eq_true hq1]at hfa;rw[if_pos (.inl hq1)]at hse;subst hse;rw[if_neg Y]at hF;subst hF;refine aQ hx ?_;refine aj hfa ?_;exact co
  rw[decide_eq_false hq1]at hfa;by_cases hq2:x.c.val < -((10000000:Int):Rat)\/((10000000:Int):Rat)<x.c.val
  .rw[decide_eq_true hq2]at hbe;rw[if_pos (.inr hq2)]at hse;subst hse;rw[if_neg Y]at hF;subst hF;refine aQ hx ?_;refine aj hfa ?_;refine aj hbe ?_;exact co
  rw[decide_eq_false hq2]at hbe;rw[if_neg (fun h=>h.elim hq1 hq2)]at hse;subst hse;refine aQ hx ?_;refine aj hfa ?_;refine aj hbe ?_;refine aj hcc ?_;refine D ?_ ?_<;>intro h
  .have h2:se≠0:=by simpa using h
   clear h;rw[if_neg h2]at hF;subst hF;exact co
  .have h2:se=0:=by simpa using h
   clear h;rw[if_pos h2]at hF;refine H ?_;exact⟨i+1,⟨J,hF⟩,J,O,O,congrArg I hw,trivial⟩
 .have hie:i=l.length:=by have:=aE h;omega
  clear h;rw[hie,fH,fE]at hF;subst hF;exact co
theorem bS {α:Type}{l:List α}{k:Nat}{x:α}(hx:l[k]? = some x):l.take (k+1)=l.take k++[x]:=by
 rw[rq,hx];rfl
structure BR.Lim (b:BR):Prop where
 w:i64 b.w
 a:b.a.sz 12
 l:ma b.l
def dG (b:BR):Int:=if (b.w<1\/1000000000<b.w)\/(b.a.val < -((1000000:Int):Rat)\/((1000000:Int):Rat)<b.a.val) then 2 else dV b.l
theorem ia (b:BR)(hb:b.Lim):aO 140 [.agg (eB b)] (I (dG b)):=by
 have hbe:=vE b.a (hx:=hb.a.v) Y 1000000 Y Y;have hc:=yk b.l hb.l;generalize hE:dG b=E;rw[dG]at hE;obtain⟨w,a,l⟩:=b;simp only at *
 generalize dV l=ce at *
 by_cases h1:w<1
 .rw[if_pos (.inl (.inl h1))]at hE;subst hE;refine ax Proofs.Tryz.func140 ?_;refine eW ?_ ?_<;>intro h
  .exact co
  .exact absurd h1 (aE h)
 by_cases h2:1000000000<w
 .rw[if_pos (.inl (.inr h2))]at hE;subst hE;refine ax Proofs.Tryz.func140 ?_;refine eW ?_ ?_<;>intro h
  .exact co
  .clear h;refine eW ?_ ?_<;>intro h
   .exact co
   .exact absurd h2 (aE h)
 by_cases h3:a.val < -((1000000:Int):Rat)\/((1000000:Int):Rat)<a.val
 .rw[decide_eq_true h3]at hbe;rw[if_pos (.inr h3)]at hE;subst hE;refine ax Proofs.Tryz.func140 ?_;refine eW ?_ ?_<;>intro h
  .exact co
  .clear h;refine eW ?_ ?_<;>intro h
   .exact co
   .clear h;refine aj hbe ?_;exact co
 .rw[decide_eq_false h3]at hbe;rw[if_neg (fun h=>h.elim (fun h=>h.elim h1 h2) h3)]at hE;subst hE;refine ax Proofs.Tryz.func140 ?_;refine eW ?_ ?_<;>intro h
  .exact absurd (aB h) h1
  .clear h;refine eW ?_ ?_<;>intro h
   .exact absurd (aB h) h2
   .clear h;refine aj hbe ?_;refine aj hc ?_;exact co
theorem xV (l:List SR)(hl:ma l)(hc:dV l=0)(f:FuncId)(caps:List PV)(hcaps:∃c,caps=[.dref c 0])(g:SR->RR)(hg:∀s∈l,aO f [.agg (eS s),caps.headD .nil] (.agg (eR (g s)))) :
  aO 211 [.sl (l.map eS),.clo f caps] (.tup [.sl ((l.map g).map eR),I 0]):=by
 have hck:=yk l hl;rw[hc]at hck;have hml:(l.map eS).length=l.length:=ao;obtain⟨cc,rfl⟩:=hcaps;simp only[List.headD_cons]at hg;refine ax Proofs.Tryz.func211 ?_;refine aj hck ?_;refine H ?_;refine am (Ghost.nilreg (k:=7) (t:=7) 42 4 1 O O) ?_;have hrows:∀(k:Nat) x,l[k]? = some x->((l.take (k+1)).map g).map eR=((l.take k).map g).map eR++[eR (g x)]:=fun k x hx=>by rw[bS hx,bc,bc];rfl
 refine ah (fun k=>k<=l.length) (fun k=>[(1,.clo f [.dref cc 0]),(7,.als 7 (k+1) 0 (((l.take k).map g).map eR).length),(15,.sl (l.map eS)),(16,I l.length),(17,I k)]) (fun k=>[(7,k+1,⟨42,4,((l.take k).map g).map eR,1⟩)]) (fun k=>l.length-k) 0 (aP _) ⟨O,O,O,by rw[<-hml];rfl,O,O,trivial⟩ ?_;intro k s hk;refine D ?_ ?_<;>intro h
 .have hlt:k<l.length:=by have:=aB h;omega
  clear h;obtain⟨x,hx⟩:=aC hlt;have hgx:=hg x (bm hx);have hw:IntKind.i64.wrap (((k:Nat):Int)+1)=((k+1:Nat):Int):=by have:=hl.2;rw[wrap_i64 J J];omega
  have hll:=hl.2;refine aQ hx ?_;refine G hgx ?_;refine H ?_;refine ay (aY 1 O O O O O O O O O O O aH O ?_);refine H ?_;refine ay (bJ 1 O O O O O O O O O O O aH (by intro row hr;first|(simp at hr;subst hr;rfl)|simp at hr) O O aV aV ?_);refine H ?_;refine⟨k+1,hlt,J,O,?_,O,O,congrArg I hw,?_,trivial⟩
  .rw[hrows k x hx];rfl
  .rw[hrows k x hx];rfl
 .have hge:k=l.length:=by have:=aE h;omega
  clear h;refine H ?_;exact DZ O aH O aH (by rw[hge,bb];rfl)
theorem B5 (s:SR)(hs:s.Lim)(hk:eL s.k=0)(a:AR){z t:Rat}{n m:Nat}[ha:Va a z t n m](hn:n+m<=90000):aO 212 [.agg (eS s),.dref (eA a) 0] (.agg (eR (ofQ (fQ s z t)))):=by
 have h1:=Hv s hs hk a hn;generalize ofQ (fQ s z t)=X at *
 obtain⟨x,c,k⟩:=s;obtain⟨az,at'⟩:=a;try simp only at *
 refine ax Proofs.Tryz.func212 ?_;refine G h1 ?_;exact bW
theorem eZ {l:List SR}(h:dV l=0):∀s∈l,eL s.k=0:=by
 intro s hs;rw[dV]at h;split at h
 .omega
 .have:=pO h s hs;rw[rU]at this;split at this
  .omega
  .exact this
def FL (l:List SR)(z t:Rat):List RR:=l.map fun s=>ofQ (fQ s z t)
theorem pP (l:List SR)(hl:ma l)(hc:dV l=0)(a:AR){z t:Rat}{n m:Nat}[ha:Va a z t n m](hn:n+m<=90000):aO 144 [.sl (l.map eS),.agg (eA a)] (.tup [.sl ((FL l z t).map eR),I 0]):=by
 have h1:=xV l hl hc 212 [.dref (eA a) 0] ⟨_,O⟩ (fun s=>ofQ (fQ s z t)) fun s hs=>B5 s (hl.1 s hs) (eZ hc s hs) a hn;rw[<-FL]at h1;generalize FL l z t=X at *
 obtain⟨az,at'⟩:=a;refine ax Proofs.Tryz.func144 ?_;refine cN 1 ?_;refine am (Ghost.data (k:=3) (t:=3) O O O O) ?_;refine G h1 ?_;exact bW
def xT (l:List SR):Prop:=l.length<=12/\∀s∈l,s.k.S.length<=8
theorem FH {s:SR}(hs:s.Lim)(h8:s.k.S.length<=8){z t:Rat}{n m:Nat}(hz:HQ z n)(ht:HQ t m):HQ (fQ s z t) (8*(n+m+60)+4):=by
 rw[fQ,kR];exact(b9 s.k.S.length fun k _=>Gz hs.k (DB hs hz ht) k).mono (by have:=et h8 (show 13+(n+(m+4)+1)+1+32+1<=n+m+60 by omega);omega)
def dS:SR:=⟨0,RR.zero,⟨[],[]⟩⟩
def bd (b:BR):Bd:={ N:=b.l.length,X:=fun i=>((b.l.getD i dS).x:Rat),C:=fun i=>(b.l.getD i dS).c.val,n:=fun i=>(b.l.getD i dS).k.S.length,S:=fun i=>(b.l.getD i dS).k.s,M:=fun i=>(b.l.getD i dS).k.m,w:=b.w,A:=b.a.val }
def fI (l:List SR)(z t:Rat)(i:Nat):Rat:=fQ (l.getD i dS) z t
def gI (l:List SR)(z t:Rat)(i:Nat):Rat:=fQ (l.getD i dS) z t*((l.getD i dS).x:Rat)
theorem bR {l:List SR}{i:Nat}(h:i<l.length):l.getD i dS∈l:=bm (bF h)
theorem IM (l:List SR)(hl:ma l)(hf:xT l){z t:Rat}{n m:Nat}(hz:HQ z n)(ht:HQ t m)(hn:n+m<=100000):aO 277 [.sl (l.map eS),.sl ((FL l z t).map eR)] (.agg (eR (ofQ (aq (fI l z t) l.length))++eR (ofQ (aq (gI l z t) l.length)))):=by
 have hw0:=cC 0 ⟨Y,Y⟩;rw[show(((0:Int):Rat))=0 from O]at hw0;have hml:(l.map eS).length=l.length:=ao;have hFl:((FL l z t).map eR).length=l.length:=by simp[FL]
 have hFH:∀i,i<l.length->HQ (fI l z t i) (8*(n+m+60)+4):=fun i hi=>FH (hl.1 _ (bR hi)) (hf.2 _ (bR hi)) hz ht;have hGH:∀i,i<l.length->HQ (gI l z t i) (8*(n+m+60)+4+4):=fun i hi=>by
  have hx:=(hl.1 _ (bR hi)).x;have hx:Zb (l.getD i dS).x:=aJ hx.1 hx.2;exact @HQ.mul _ _ _ 4 (hFH i hi) HQ.int
 have hB:∀i,i<=l.length->i*(8*(n+m+60)+4+4+1)+4<=12000000:=fun i hi=>by
  have:=hf.1;have:=et (show i<=12 by omega) (show 8*(n+m+60)+4+4+1<=800489 by omega);omega
 refine ax Proofs.Tryz.func277 ?_;refine G hw0 ?_;refine G hw0 ?_;refine H ?_;refine ah (fun i:Nat=>i<=l.length) (fun i=>[(1,.sl ((FL l z t).map eR)),(4,.ptr 4 1 0 0),(5,.ptr 5 1 0 0),(11,.sl (l.map eS)),(12,I l.length),(13,I (i:Nat))])
  (fun i=>[(4,1,⟨222,8,[zN++zN],2⟩),(5,1,⟨222,8,[eR (ofQ (aq (fI l z t) i))++eR (ofQ (aq (gI l z t) i))],2⟩)]) (fun i=>l.length-i) 0 (aP _) ⟨O,O,O,O,by rw[<-hml];rfl,O,O,O,trivial⟩ ?_
 intro i s hi;refine D ?_ ?_<;>intro h
 .have hlt:i<l.length:=by have:=aB h;omega
  clear h;have hx:=bF (d:=dS) hlt;have hFi:(FL l z t)[i]? = some (ofQ (fI l z t i)):=by rw[FL,bD,hx];rfl
  have hxx:=(hl.1 _ (bR hlt)).x;have hzb:Zb (l.getD i dS).x:=aJ hxx.1 hxx.2;have hw:IntKind.i64.wrap (((i:Nat):Int)+1)=((i+1:Nat):Int):=by have:=hf.1;rw[wrap_i64 J J];omega
  have hBi:=hB i hi;have v0:Vq (ofQ (fI l z t i)) (fI l z t i) (8*(n+m+60)+4):=Vq.ofQ (h:=hFH i hlt);have vg:Vq (ofQ (gI l z t i)) (gI l z t i) (8*(n+m+60)+4+4):=Vq.ofQ (h:=hGH i hlt);have v1:Vq (ofQ (aq (fI l z t) i)) (aq (fI l z t) i) (i*(8*(n+m+60)+4+1)+4):=Vq.ofQ (h:=b9 i fun k hk=>hFH k J);have v2:Vq (ofQ (aq (gI l z t) i)) (aq (gI l z t) i) (i*(8*(n+m+60)+4+4+1)+4):=Vq.ofQ (h:=b9 i fun k hk=>hGH k J);have h1:=eY (ofQ (aq (fI l z t) i)) (ofQ (fI l z t i)) (hx:=v1) (hy:=v0) (by have:=et (ke i) (show 8*(n+m+60)+4+1<=8*(n+m+60)+4+4+1 by omega);omega) J;have h2:=cC (l.getD i dS).x hxx;have h3:=i7 (ofQ (fI l z t i)) (ofQ ((l.getD i dS).x:Rat)) (hx:=v0) J Y;have h4:=eY (ofQ (aq (gI l z t) i)) (ofQ (gI l z t i)) (hx:=v2) (hy:=vg) J J;rw[show aq (fI l z t) i+fI l z t i=aq (fI l z t) (i+1) from O]at h1;rw[show aq (gI l z t) i+gI l z t i=aq (gI l z t) (i+1) from O]at h4;rw[show fI l z t i*((l.getD i dS).x:Rat)=gI l z t i from O]at h3;generalize hF1:ofQ (aq (fI l z t) (i+1))=F1 at *
  generalize hG1:ofQ (aq (gI l z t) (i+1))=G1 at *
  generalize ofQ (aq (fI l z t) i)=F0,ofQ (aq (gI l z t) i)=G0 at *
  refine aQ hx ?_;refine cO 8 [18,19,20,21,22,23,24,25] ?_;refine aQ hFi ?_;refine G h1 ?_;refine cO 12 [26,27,28,29,30,31,32,33,34,35,36,37] ?_;refine aQ hFi ?_;refine G h2 ?_;refine G h3 ?_;refine G h4 ?_;refine H ?_;refine⟨i+1,hlt,J,O,O,O,O,O,congrArg I hw,O,?_,trivial⟩;show(_:Nat × Option Cont)=(1,some (Cont.mk 222 8 [eR (ofQ (aq (fI l z t) (i+1)))++eR (ofQ (aq (gI l z t) (i+1)))] 2));rw[hF1,hG1];rfl
 .have hie:i=l.length:=by have:=aE h;omega
  clear h;subst hie;exact bW
structure BR.Ok (b:BR):Prop where
 lim:b.Lim
 chk:dG b=0
 few:xT b.l
theorem BG {b:BR}(h:dG b=0):1<=b.w/\b.w<=1000000000/\dV b.l=0:=by
 rw[dG]at h;split at h
 .omega
 .rename_i h1;exact⟨J,J,h⟩
theorem BR.Ok.chkL {b:BR}(h:b.Ok):dV b.l=0:=(BG h.chk).2.2
theorem Mv {l:List SR}(hl:ma l)(hf:xT l){z t:Rat}{n m:Nat}(hz:HQ z n)(ht:HQ t m):HQ (aq (fI l z t) l.length) (96*(n+m+60)+200) :=
 (b9 l.length fun i hi=>FH (hl.1 _ (bR hi)) (hf.2 _ (bR hi)) hz ht).mono (by have:=et hf.1 (ke (8*(n+m+60)+4+1));omega)
theorem Mx {l:List SR}(hl:ma l)(hf:xT l){z t:Rat}{n m:Nat}(hz:HQ z n)(ht:HQ t m):HQ (aq (gI l z t) l.length) (96*(n+m+60)+200) :=
 (b9 (m:=8*(n+m+60)+4+4) l.length fun i hi=>by
  have hx:=(hl.1 _ (bR hi)).x;have hx:Zb (l.getD i dS).x:=aJ hx.1 hx.2
  exact @HQ.mul _ _ _ 4 (FH (hl.1 _ (bR hi)) (hf.2 _ (bR hi)) hz ht) HQ.int).mono (by have:=et hf.1 (ke (8*(n+m+60)+4+4+1));omega)
theorem qA (l:List SR)(hl:ma l)(hc:dV l=0)(hf:xT l)(a:AR){z t:Rat}{n m:Nat}[ha:Va a z t n m](hn:n+m<=90000) :
  aO 249 [.sl (l.map eS),.agg (eA a)] (.tup [.agg (eR (ofQ (aq (fI l z t) l.length))++eR (ofQ (aq (gI l z t) l.length))),I 0]):=by
 have h1:=pP l hl hc a hn;have h2:=IM l hl hf ha.z.hq ha.t.hq J;generalize ofQ (aq (fI l z t) l.length)=X1,ofQ (aq (gI l z t) l.length)=X2,FL l z t=L at *
 obtain⟨az,at'⟩:=a;refine ax Proofs.Tryz.func249 ?_;refine G h1 ?_;refine G h2 ?_;exact bW
theorem Dw {b:BR}(hb:b.Ok):HQ ((b.w:Rat)*b.a.val) 17:=by
 have hw:Zb b.w:=aJ hb.lim.w.1 hb.lim.w.2;exact @HQ.mul _ _ 4 13 HQ.int hb.lim.a.v.hq
theorem vV (b:BR)(hb:b.Ok)(a:AR){z t:Rat}{n m:Nat}[ha:Va a z t n m](hn:n+m<=60000):aO 203 [.agg (eB b),.agg (eA a)] (.agg (eR (ofQ ((bd b).e z t)))):=by
 have h1:=qA b.l hb.lim.l hb.chkL hb.few a J;have h2:=cC b.w hb.lim.w;have hw:Zb b.w:=aJ hb.lim.w.1 hb.lim.w.2;have h3:=i7 (ofQ (b.w:Rat)) b.a (hy:=hb.lim.a.v) Y Y;have v1:Vq (ofQ (aq (gI b.l z t) b.l.length)) (aq (gI b.l z t) b.l.length) (96*(n+1+(m+1)+60)+200):=Vq.ofQ (h:=Mx hb.lim.l hb.few ha.z.hq ha.t.hq);have v2:Vq (ofQ ((b.w:Rat)*b.a.val)) ((b.w:Rat)*b.a.val) 17:=Vq.ofQ (h:=Dw hb);have h4:=np (ofQ (aq (gI b.l z t) b.l.length)) (ofQ ((b.w:Rat)*b.a.val)) (hx:=v1) (hy:=v2) J Y;rw[show aq (gI b.l z t) b.l.length-(b.w:Rat)*b.a.val=(bd b).e z t from O]at h4;generalize ofQ ((bd b).e z t)=X0,ofQ (aq (fI b.l z t) b.l.length)=X1,ofQ (aq (gI b.l z t) b.l.length)=X2,ofQ ((b.w:Rat)*b.a.val)=X3,ofQ (b.w:Rat)=X4 at *
 obtain⟨w,ba,l⟩:=b;obtain⟨az,at'⟩:=a;simp only at *
 refine ax Proofs.Tryz.func203 ?_;refine G h1 ?_;refine cO 9 [14,15,16,17,18,19,20,21,22] ?_;refine G h2 ?_;refine G h3 ?_;refine G h4 ?_;exact bW
theorem PN {b:BR}(hb:b.Ok){z t:Rat}{n m:Nat}(hz:HQ z n)(ht:HQ t m):HQ ((bd b).e z t) (96*(n+m+60)+200+17+1):=@HQ.sub _ _ _ 17 (Mx hb.lim.l hb.few hz ht) (Dw hb)
instance (b:Bd) (z t:Rat):Decidable (b.Bal z t):=inferInstanceAs (Decidable (_/\_))
theorem zu (b:BR)(hb:b.Ok)(a:AR){z t:Rat}{n m:Nat}[ha:Va a z t n m](hn:n+m<=60000):aO 255 [.agg (eB b),.agg (eA a)] (.bool (decide ((bd b).Bal z t))):=by
 have h1:=qA b.l hb.lim.l hb.chkL hb.few a J;have h2:=cC b.w hb.lim.w;have hw:Zb b.w:=aJ hb.lim.w.1 hb.lim.w.2;have v0:Vq (ofQ (aq (fI b.l z t) b.l.length)) (aq (fI b.l z t) b.l.length) (96*(n+1+(m+1)+60)+200):=Vq.ofQ (h:=Mv hb.lim.l hb.few ha.z.hq ha.t.hq);have h5:=kw (ofQ (aq (fI b.l z t) b.l.length)) (ofQ (b.w:Rat)) (hx:=v0) J Y;have h3:=i7 (ofQ (b.w:Rat)) b.a (hy:=hb.lim.a.v) Y Y;have v1:Vq (ofQ (aq (gI b.l z t) b.l.length)) (aq (gI b.l z t) b.l.length) (96*(n+1+(m+1)+60)+200):=Vq.ofQ (h:=Mx hb.lim.l hb.few ha.z.hq ha.t.hq);have v2:Vq (ofQ ((b.w:Rat)*b.a.val)) ((b.w:Rat)*b.a.val) 17:=Vq.ofQ (h:=Dw hb);have h4:=kw (ofQ (aq (gI b.l z t) b.l.length)) (ofQ ((b.w:Rat)*b.a.val)) (hx:=v1) (hy:=v2) J Y;have key:decide ((bd b).Bal z t)=(decide (sgn (aq (fI b.l z t) b.l.length-(b.w:Rat))=0)&&decide (sgn (aq (gI b.l z t) b.l.length-(b.w:Rat)*b.a.val)=0)):=by
  rw[<-Bool.decide_and,decide_eq_decide,gy,gy];show aq (fI b.l z t) b.l.length=(b.w:Rat)/\aq (gI b.l z t) b.l.length=(b.w:Rat)*b.a.val↔_;constructor
  .rintro⟨e1,e2⟩;rw[e1,e2];constructor<;>grind
  .rintro⟨e1,e2⟩;constructor<;>grind
 rw[key];generalize sgn (aq (fI b.l z t) b.l.length-(b.w:Rat))=g1,sgn (aq (gI b.l z t) b.l.length-(b.w:Rat)*b.a.val)=g2,ofQ (aq (fI b.l z t) b.l.length)=X1,ofQ (aq (gI b.l z t) b.l.length)=X2,ofQ ((b.w:Rat)*b.a.val)=X3,ofQ (b.w:Rat)=X4 at *
 obtain⟨w,ba,l⟩:=b;obtain⟨az,at'⟩:=a;simp only at *
 refine ax Proofs.Tryz.func255 ?_;refine G h1 ?_;refine cO 20 [14,15,16,17,18,19,20,21,22,23,24,25,26,27,28,29,30,31,32,4] ?_;refine G h2 ?_;refine aj h5 ?_;refine eW ?_ ?_<;>intro h
 .rw[h];clear h;refine G h2 ?_;refine G h3 ?_;refine aj h4 ?_;exact fC
 .rw[h];clear h;exact fC
theorem GG {S M:Nat->Rat}{n:Nat}{y:Rat}(h:∀k,k+1<n->S k<S (k+1)):∀m,m<=n->aq (lk S M y) m=cE M (tJ S y m)
 |0,_=>rfl
 |m+1,hm=>by
  rw[aq,GG h m J,tJ,lk];by_cases hy:S m<=y
  .rw[if_pos hy,if_neg bM];have:tJ S y m=m:=by
    cases m with
    |zero=>rfl
    |succ j =>
     have:=h j J;rw[tJ,if_pos bM]
   rw[this,cE];grind
  .rw[if_neg hy,if_pos bM];grind
def HN (c:CR)(y:Rat):Nat->RR
 |0=>ofQ 0
 |i+1=>if c.s i<y then c.M.getD i RR.zero else HN c y i
theorem Km {c:CR}(hc:c.Lim)(y:Rat):∀i,Vq (HN c y i) (cE c.m (yL c.s y i)) 12
 |0=>yg c hc 0
 |i+1=>by
  rw[HN,yL];split
  .exact Co c hc i
  .exact Km hc y i
theorem w_ (s:SR)(hs:s.Lim)(hk:eL s.k=0)(a:AR){z t:Rat}{n m:Nat}[ha:Va a z t n m](hn:n+m<=90000):aO 280 [.agg (eS s),.dref (eA a) 0] (.agg (eR (ofQ (cE s.k.m (tJ s.k.s (yQ s z t) s.k.S.length))))):=by
 have h1:=sj s hs a J J;have v1:Vq (ofQ (yQ s z t)) (yQ s z t) (13+(n+1+(m+1+4)+1)+1):=Vq.ofQ (h:=DB hs ha.z.hq ha.t.hq);have h2:=IA s.k hs.k hk (ofQ (yQ s z t)) (hy:=v1) J;rw[LD,GG (ic hk).2.2.2 _ (a_)]at h2;generalize ofQ (cE s.k.m (tJ s.k.s (yQ s z t) s.k.S.length))=X2,ofQ (yQ s z t)=X1 at *
 obtain⟨x,c,k⟩:=s;obtain⟨az,at'⟩:=a;try simp only at *
 refine ax Proofs.Tryz.func280 ?_;refine H ?_;refine bj [4] [9,10] aK ?_;refine G h1 ?_;refine G h2 ?_;exact bW
theorem yA (s:SR)(hs:s.Lim)(hk:eL s.k=0)(a:AR){z t:Rat}{n m:Nat}[ha:Va a z t n m](hn:n+m<=90000):aO 282 [.agg (eS s),.dref (eA a) 0] (.agg (eR (HN s.k (yQ s z t) s.k.S.length))):=by
 have h1:=sj s hs a J J;have v1:Vq (ofQ (yQ s z t)) (yQ s z t) (13+(n+1+(m+1+4)+1)+1):=Vq.ofQ (h:=DB hs ha.z.hq ha.t.hq);have hw0:=cC 0 ⟨Y,Y⟩;rw[show(((0:Int):Rat))=0 from O]at hw0;have hSM:=(ic hk).2.1;have h40:=(ic hk).1;have hkl:=hs.k;obtain⟨x,c,k⟩:=s;obtain⟨az,at'⟩:=a;simp only at hSM h40 hkl;dsimp only;generalize yQ ⟨x,c,k⟩ z t=y at *
 generalize ofQ y=Y0 at *
 have hSl:(k.S.map eN).length=k.S.length:=ao;refine ax Proofs.Tryz.func282 ?_;refine G h1 ?_;refine G hw0 ?_;refine H ?_;refine ah (fun i:Nat=>i<=k.S.length) (fun i=>[(2,.ptr 2 1 0 0),(3,.ptr 3 1 0 0),(4,.ptr 4 1 0 0),(5,.ptr 5 1 0 0),(14,.sl (k.S.map eN)),(15,I k.S.length),(16,I (i:Nat))])
  (fun i=>[(2,1,⟨136,7,[eS ⟨x,c,k⟩],2⟩),(3,1,⟨42,4,[zN],2⟩),(4,1,⟨42,4,[eR Y0],2⟩),(5,1,⟨42,4,[eR (HN k y i)],2⟩)]) (fun i=>k.S.length-i) 0 (aP _) ⟨O,O,O,O,O,by rw[<-hSl];rfl,O,O,O,O,O,trivial⟩ ?_
 intro i s hi;refine D ?_ ?_<;>intro h
 .have hlt:i<k.S.length:=by have:=aB h;omega
  clear h;have hx:=bF (d:=0) hlt;have hmx:=bF (l:=k.M) (i:=i) (d:=RR.zero) J;have hxb:=rP hkl i;have hnum:=cC (k.S.getD i 0) hxb;have hzb:Zb (k.S.getD i 0):=aJ hxb.1 hxb.2;have hcm:=kw (ofQ ((k.S.getD i 0:Int):Rat)) Y0 (hy:=v1) Y J;have hsl:=cX (k.s i-y);rw[show((k.S.getD i 0:Int):Rat)=k.s i from O]at hnum hcm;have hw:=fg i;have hst:HN k y (i+1)=if k.s i<y then k.M.getD i RR.zero else HN k y i:=O
  generalize ofQ (k.s i)=N at *
  refine aQ hx ?_;refine cO 5 [21,22,23,24,25] ?_;refine G hnum ?_;refine aj hcm ?_;refine D ?_ ?_<;>intro h
  .have h3:k.s i<y:=by have:=hsl.1 (aB h);grind
   clear h;rw[if_pos h3]at hst;refine aQ hmx ?_;refine H ?_;refine⟨i+1,hlt,J,O,O,O,O,O,O,congrArg I hw,O,O,O,?_,trivial⟩;show(_:Nat × Option Cont)=(1,some (Cont.mk 42 4 [eR (HN k y (i+1))] 2));rw[hst];rfl
  .have h3:¬k.s i<y:=fun h2=>(aE h) (hsl.2 bM);clear h;rw[if_neg h3]at hst;refine H ?_;refine⟨i+1,hlt,J,O,O,O,O,O,O,congrArg I hw,O,O,O,?_,trivial⟩;show(_:Nat × Option Cont)=(1,some (Cont.mk 42 4 [eR (HN k y (i+1))] 2));rw[hst];rfl
 .have hie:i=k.S.length:=by have:=aE h;omega
  clear h;subst hie;exact bW
theorem yX (a:AR):aO 251 [.agg (eA a)] (.clo 280 [.dref (eA a) 0]):=by
 obtain⟨az,at'⟩:=a;refine ax Proofs.Tryz.func251 ?_;exact bW
theorem Ck (a:AR):aO 252 [.agg (eA a)] (.clo 282 [.dref (eA a) 0]):=by
 obtain⟨az,at'⟩:=a;refine ax Proofs.Tryz.func252 ?_;exact bW
def xI (l:List SR)(i:Nat):Rat:=((l.getD i dS).x:Rat)
def eK (a b c:RR):List PV:=eR a++(eR b++eR c)
theorem ze (l:List SR)(hl:ma l)(hf:xT l)(f:FuncId)(cc:List PV)(g:SR->RR)(κ:Nat->Rat)(hg:∀s∈l,aO f [.agg (eS s),.dref cc 0] (.agg (eR (g s))))(hv:∀i,i<l.length->Vq (g (l.getD i dS)) (κ i) 1000) :
  aO 254 [.sl (l.map eS),.clo f [.dref cc 0]] (.agg (eK (ofQ (aq κ l.length)) (ofQ (aq (fun i=>κ i*xI l i) l.length)) (ofQ (aq (fun i=>κ i*xI l i*xI l i) l.length)))):=by
 have hw0:=cC 0 ⟨Y,Y⟩;rw[show(((0:Int):Rat))=0 from O]at hw0;have hml:(l.map eS).length=l.length:=ao;have hX:∀i,i<l.length->HQ (xI l i) 4:=fun i hi=>by
  have hx:=(hl.1 _ (bR hi)).x;have hx:Zb (l.getD i dS).x:=aJ hx.1 hx.2;exact HQ.int
 have hK:∀i,i<l.length->HQ (κ i) 1001:=fun i hi=>(hv i hi).hq;have hC:∀i,i<l.length->HQ (κ i*xI l i) 1005:=fun i hi=>@HQ.mul _ _ 1001 4 (hK i hi) (hX i hi);have hP:∀i,i<l.length->HQ (κ i*xI l i*xI l i) 1009:=fun i hi=>@HQ.mul _ _ 1005 4 (hC i hi) (hX i hi);have h12:=hf.1;generalize hc:(fun i=>κ i*xI l i)=C at *
 generalize hp:(fun i=>κ i*xI l i*xI l i)=Pq at *
 have hCi:∀i,κ i*xI l i=C i:=fun i=>by rw[<-hc]
 have hPi:∀i,C i*xI l i=Pq i:=fun i=>by rw[<-hc,<-hp]
 simp only[hCi,hPi]at hC hP;clear hc hp;refine ax Proofs.Tryz.func254 ?_;refine G hw0 ?_;refine G hw0 ?_;refine G hw0 ?_;refine H ?_;refine ah (fun i:Nat=>i<=l.length) (fun i=>[(1,.clo f [.dref cc 0]),(4,.ptr 4 1 0 0),(5,.ptr 5 1 0 0),(13,.sl (l.map eS)),(14,I l.length),(15,I (i:Nat))])
  (fun i=>[(4,1,⟨308,12,[zN++(zN++zN)],2⟩),(5,1,⟨308,12,[eK (ofQ (aq κ i)) (ofQ (aq C i)) (ofQ (aq Pq i))],2⟩)]) (fun i=>l.length-i) 0 (aP _) ⟨O,O,O,O,by rw[<-hml];rfl,O,O,O,trivial⟩ ?_
 intro i s hi;refine D ?_ ?_<;>intro h
 .have hlt:i<l.length:=by have:=aB h;omega
  clear h;have hx:=bF (d:=dS) hlt;have hxx:=(hl.1 _ (bR hlt)).x;have hgx:=hg _ (bR hlt);have hvi:=hv i hlt;have hw:=fg i;have hwx:=cC (l.getD i dS).x hxx;rw[show((l.getD i dS).x:Rat)=xI l i from O]at hwx;have vx:Vq (ofQ (xI l i)) (xI l i) 4:=Vq.ofQ (h:=hX i hlt);have v1:Vq (ofQ (aq κ i)) (aq κ i) (i*(1001+1)+4):=Vq.ofQ (h:=b9 i fun k hk=>hK k J);have v2:Vq (ofQ (aq C i)) (aq C i) (i*(1005+1)+4):=Vq.ofQ (h:=b9 i fun k hk=>hC k J);have v3:Vq (ofQ (aq Pq i)) (aq Pq i) (i*(1009+1)+4):=Vq.ofQ (h:=b9 i fun k hk=>hP k J);have w2:Vq (ofQ (C i)) (C i) 1005:=Vq.ofQ (h:=hC i hlt);have w3:Vq (ofQ (Pq i)) (Pq i) 1009:=Vq.ofQ (h:=hP i hlt);have a1:=eY (ofQ (aq κ i)) (g (l.getD i dS)) (hx:=v1) (hy:=hvi) J Y;have m1:=i7 (g (l.getD i dS)) (ofQ (xI l i)) (hx:=hvi) (hy:=vx) Y Y;rw[hCi]at m1;have a2:=eY (ofQ (aq C i)) (ofQ (C i)) (hx:=v2) (hy:=w2) J Y;have m2:=i7 (ofQ (C i)) (ofQ (xI l i)) (hx:=w2) (hy:=vx) Y Y;rw[hPi]at m2;have a3:=eY (ofQ (aq Pq i)) (ofQ (Pq i)) (hx:=v3) (hy:=w3) J Y;rw[show aq κ i+κ i=aq κ (i+1) from O]at a1;rw[show aq C i+C i=aq C (i+1) from O]at a2;rw[show aq Pq i+Pq i=aq Pq (i+1) from O]at a3;have hout:eK (ofQ (aq κ (i+1))) (ofQ (aq C (i+1))) (ofQ (aq Pq (i+1)))=eK (ofQ (aq κ (i+1))) (ofQ (aq C (i+1))) (ofQ (aq Pq (i+1))):=O;generalize ofQ (aq κ i)=K0,ofQ (aq C i)=C0,ofQ (aq Pq i)=P0 at *
  generalize hK1:ofQ (aq κ (i+1))=K1 at *
  generalize hC1:ofQ (aq C (i+1))=C1 at *
  generalize hP1:ofQ (aq Pq (i+1))=P1 at *
  generalize ofQ (xI l i)=XI,ofQ (C i)=CI,ofQ (Pq i)=PI at *
  refine aQ hx ?_;refine G hgx ?_;refine G a1 ?_;refine cO 5 [27,28,29,30,31] ?_;refine G hwx ?_;refine G m1 ?_;refine G a2 ?_;refine cO 9 [37,38,39,40,41,42,43,44,45] ?_;refine G hwx ?_;refine G m2 ?_;refine G a3 ?_;refine H ?_;refine⟨i+1,hlt,J,O,O,O,O,O,congrArg I hw,O,?_,trivial⟩;show(_:Nat × Option Cont)=(1,some (Cont.mk 308 12 [eK (ofQ (aq κ (i+1))) (ofQ (aq C (i+1))) (ofQ (aq Pq (i+1)))] 2));rw[hK1,hC1,hP1];rfl
 .have hie:i=l.length:=by have:=aE h;omega
  clear h;subst hie;exact bW
theorem Hb (a d:AR){z t:Rat}{n m:Nat}{z' t':Rat}{n' m':Nat}[ha:Va a z t n m][hd:Va d z' t' n' m'](h1:n<=8000000)(h2:m<=8000000)(h3:n'<=8000000)(h4:m'<=8000000):aO 256 [.agg (eA a),.agg (eA d)] (.agg (eA ⟨ofQ (z+z'),ofQ (t+t')⟩)):=by
 have a1:=eY a.z d.z (hx:=ha.z) (hy:=hd.z) J J;have a2:=eY a.t d.t (hx:=ha.t) (hy:=hd.t) J J;generalize ofQ (z+z')=X,ofQ (t+t')=Y0 at *
 obtain⟨az,at'⟩:=a;obtain⟨dz,dt⟩:=d;try simp only at *
 refine ax Proofs.Tryz.func256 ?_;refine cO 11 [5,6,7,8,9,10,11,12,13,14,15] ?_;refine G a1 ?_;refine G a2 ?_;exact bW
theorem iJ {q:Rat}{n:Nat}(h:Vq (ofQ q) q n):HQ q n:=by
 refine⟨?_⟩;obtain⟨_,h1,h2⟩:=h;have e1:=dJ (ofQ q).n.l;have e2:=dJ (ofQ q).d.l;rw[show(ofQ q).n.l=aM q.num.natAbs from O]at e1 h1;rw[show(ofQ q).d.l=aM q.den from O]at e2 h2;rw[bh]at e1 e2;exact⟨gS e1 (fO h1),gS e2 (fO h2)⟩
def wK (d:Option (Rat × Rat)):PV:=match d with
 |none => .tup [.agg (zN++zN),.bool false]
 |some d => .tup [.agg (eA ⟨ofQ d.1,ofQ d.2⟩),.bool true]
theorem HW (kh kc kp fo mo:RR){η c p u v:Rat}{a b:Nat}(hh:Vq kh η a)(hc:Vq kc c a)(hp:Vq kp p a)(hu:Vq fo u b)(hv:Vq mo v b)(ha:a<=20000)(hb:b<=7000000) :
  aO 253 [.agg (eK kh kc kp),.agg (eR fo),.agg (eR mo)] (wK (Bd.newt η c p u v)):=by
 have m1:=i7 kh kp (hx:=hh) (hy:=hp) J J;have m2:=i7 kc kc (hx:=hc) (hy:=hc) J J;have v1:Vq (ofQ (η*p)) (η*p) (a+1+(a+1)):=Vq.ofQ (h:=@HQ.mul _ _ (a+1) (a+1) hh.hq hp.hq);have v2:Vq (ofQ (c*c)) (c*c) (a+1+(a+1)):=Vq.ofQ (h:=@HQ.mul _ _ (a+1) (a+1) hc.hq hc.hq);have s1:=np (ofQ (η*p)) (ofQ (c*c)) (hx:=v1) (hy:=v2) J J;have v3:Vq (ofQ (η*p-c*c)) (η*p-c*c) (a+1+(a+1)+(a+1+(a+1))+1):=Vq.ofQ (h:=@HQ.sub _ _ _ _ (iJ v1) (iJ v2));have sg:=xi (ofQ (η*p-c*c)) (hx:=v3) J;have hs0:=gy (η*p-c*c);by_cases h0:η*p-c*c=0
 .have hn:Bd.newt η c p u v=none:=by rw[Bd.newt,if_pos h0]
  rw[hn];have e0:=hs0.2 h0;rw[e0]at sg;generalize ofQ (η*p-c*c)=D0,ofQ (η*p)=D1,ofQ (c*c)=D2 at *
  clear hn;refine ax Proofs.Tryz.func253 ?_;refine H ?_;refine be [(11,8),(12,8)] aK aK ?_;refine G m1 ?_;refine G m2 ?_;refine G s1 ?_;refine aj sg ?_;exact bW
 .have hn:Bd.newt η c p u v=some ((p*u-c*v)/(η*p-c*c),(η*v-c*u)/(η*p-c*c)):=by rw[Bd.newt,if_neg h0]
  rw[hn];have m3:=i7 kp fo (hx:=hp) (hy:=hu) J J;have m4:=i7 kc mo (hx:=hc) (hy:=hv) J J;have m5:=i7 kh mo (hx:=hh) (hy:=hv) J J;have m6:=i7 kc fo (hx:=hc) (hy:=hu) J J;have w3:Vq (ofQ (p*u)) (p*u) (a+1+(b+1)):=Vq.ofQ (h:=@HQ.mul _ _ (a+1) (b+1) hp.hq hu.hq);have w4:Vq (ofQ (c*v)) (c*v) (a+1+(b+1)):=Vq.ofQ (h:=@HQ.mul _ _ (a+1) (b+1) hc.hq hv.hq);have w5:Vq (ofQ (η*v)) (η*v) (a+1+(b+1)):=Vq.ofQ (h:=@HQ.mul _ _ (a+1) (b+1) hh.hq hv.hq);have w6:Vq (ofQ (c*u)) (c*u) (a+1+(b+1)):=Vq.ofQ (h:=@HQ.mul _ _ (a+1) (b+1) hc.hq hu.hq);have s2:=np (ofQ (p*u)) (ofQ (c*v)) (hx:=w3) (hy:=w4) J J;have s3:=np (ofQ (η*v)) (ofQ (c*u)) (hx:=w5) (hy:=w6) J J;have x2:Vq (ofQ (p*u-c*v)) (p*u-c*v) (a+1+(b+1)+(a+1+(b+1))+1):=Vq.ofQ (h:=@HQ.sub _ _ _ _ (iJ w3) (iJ w4));have x3:Vq (ofQ (η*v-c*u)) (η*v-c*u) (a+1+(b+1)+(a+1+(b+1))+1):=Vq.ofQ (h:=@HQ.sub _ _ _ _ (iJ w5) (iJ w6));have q2:=CB (ofQ (p*u-c*v)) (ofQ (η*p-c*c)) (hx:=x2) (hy:=v3) J J h0;have q3:=CB (ofQ (η*v-c*u)) (ofQ (η*p-c*c)) (hx:=x3) (hy:=v3) J J h0;have hsn:sgn (η*p-c*c)≠0:=fun e=>h0 (hs0.1 e);simp only[wK];generalize ofQ ((p*u-c*v)/(η*p-c*c))=R1,ofQ ((η*v-c*u)/(η*p-c*c))=R2,sgn (η*p-c*c)=gs,ofQ (η*p-c*c)=D0,ofQ (η*p)=D1,ofQ (c*c)=D2,ofQ (p*u-c*v)=D3,ofQ (η*v-c*u)=D4,ofQ (p*u)=D5,ofQ (c*v)=D6,ofQ (η*v)=D7,ofQ (c*u)=D8 at *
  clear hn;refine ax Proofs.Tryz.func253 ?_;refine H ?_;refine be [(11,8),(12,8)] aK aK ?_;refine G m1 ?_;refine G m2 ?_;refine G s1 ?_;refine aj sg ?_;refine D ?_ ?_<;>intro h
  .exact absurd (aB h) hsn
  clear h;refine H ?_;refine be [(9,9),(10,9)] aK aK ?_;refine G m3 ?_;refine G m4 ?_;refine G s2 ?_;refine H ?_;refine be [(9,10),(10,10)] aK aK ?_;refine G m5 ?_;refine G m6 ?_;refine G s3 ?_;refine cO 7 [44,45,46,47,48,49,50] ?_;refine G q2 ?_;refine G q3 ?_;exact bW
def lw (S M:Nat->Rat)(k:Nat):Rat:=M k*(S (k+1)-S k)
theorem Cy (S M:Nat->Rat):∀m,o_ S M (m+1)=M m*S m-aq (lw S M) m
 |0=>by rw[o_,aq,aq,aq,cE];grind
 |m+1=>by
  have:=Cy S M m;rw[o_]at this ⊢;rw[aq,this,aq,cE,lw];grind
theorem Fv {S M:Nat->Rat}{n:Nat}(h:cE M n=0):xU n S M=aq (lw S M) (n-1):=by
 cases n with
 |zero=>rw[xU,o_,aq,aq];grind
 |succ m =>
  rw[cE]at h;rw[xU,Cy,h,show m+1-1=m by omega];grind
def MN (c:CR):PV:=if cE c.m c.S.length=0 then .tup [.agg (eR (ofQ (xU c.S.length c.s c.m))),.bool true,I 0] else .tup [.agg zN,.bool false,I 0]
theorem zD {c:CR}(hc:c.Lim)(k:Nat):HQ (lw c.s c.m k) (13+(4+4+1)):=by
 have h1:=rP hc k;have h2:=rP hc (k+1);have z1:Zb (c.S.getD k 0):=aJ h1.1 h1.2;have z2:Zb (c.S.getD (k+1) 0):=aJ h2.1 h2.2;exact @HQ.mul _ _ 13 9 (Co c hc k).hq (@HQ.sub _ _ 4 4 HQ.int HQ.int)
theorem zE (c:CR)(hc:c.Lim)(h0:eL c=0):aO 274 [.agg (eC c)] (MN c):=by
 have hcc:=iS c hc;rw[h0]at hcc;obtain⟨h40,hSM,hrange,-⟩:=ic h0;have hz:=jw 0 Y Y;rw[show(((0:Int):Rat))=0 from O]at hz;have hSl:(c.S.map eN).length=c.S.length:=ao;generalize hR:MN c=R;rw[MN]at hR;refine ax Proofs.Tryz.func274 ?_;refine aj hcc ?_;refine G hz ?_;refine H ?_;refine ah (fun i:Nat=>i<=c.S.length/\(i=c.S.length->cE c.m c.S.length=0)) (fun i=>[(1,.ptr 1 1 0 0),(2,.ptr 2 1 0 0),(6,.ptr 6 1 0 0),(17,.sl (c.S.map eN)),(18,I c.S.length),(19,I (i:Nat))])
  (fun i=>[(1,1,⟨134,2,[eC c],2⟩),(2,1,⟨42,4,[zN],2⟩),(6,1,⟨42,4,[eR (ofQ (aq (lw c.s c.m) (min i (c.S.length-1))))],2⟩)]) (fun i=>c.S.length-i) 0 ⟨aP _,fun h=>by rw[<-h];rfl⟩ ⟨O,O,O,O,by rw[<-hSl];rfl,O,O,O,?_,trivial⟩ ?_
 .show(_:Nat × Option Cont)=(1,some (Cont.mk 42 4 [eR (ofQ (aq (lw c.s c.m) (min 0 (c.S.length-1))))] 2));rw[Nat.zero_min];rfl
 intro i s ⟨hi,hlast⟩;refine D ?_ ?_<;>intro h
 .have hlt:i<c.S.length:=by have:=aB h;omega
  clear h;have hx:=bF (d:=0) hlt;have hmx:=bF (l:=c.M) (i:=i) (d:=RR.zero) J;have hw:=fg i;by_cases hn:i+1<c.S.length
  .have hy:=bF (d:=0) hn;have r1:=(hrange i hlt);have r2:=(hrange (i+1) hn);have hd:IntKind.i64.wrap (c.S.getD (i+1) 0-c.S.getD i 0)=c.S.getD (i+1) 0-c.S.getD i 0:=wrap_i64 J J;have hnum:=jw (c.S.getD (i+1) 0-c.S.getD i 0) J J;have ed:((c.S.getD (i+1) 0-c.S.getD i 0:Int):Rat)=c.s (i+1)-c.s i:=by rw[CR.s,CR.s];push_cast;rfl
   rw[ed]at hnum;have z1:Zb (c.S.getD i 0):=aJ J J;have z2:Zb (c.S.getD (i+1) 0):=aJ J J;have v1:Vq (ofQ (c.s (i+1)-c.s i)) (c.s (i+1)-c.s i) 9:=Vq.ofQ (h:=@HQ.sub _ _ 4 4 HQ.int HQ.int);have m1:=i7 (c.M.getD i RR.zero) (ofQ (c.s (i+1)-c.s i)) (hx:=Co c hc i) (hy:=v1) Y Y;have v2:Vq (ofQ (aq (lw c.s c.m) i)) (aq (lw c.s c.m) i) (i*(13+(4+4+1)+1)+4):=Vq.ofQ (h:=b9 i fun k _=>zD hc k);have v3:Vq (ofQ (lw c.s c.m i)) (lw c.s c.m i) (13+(4+4+1)):=Vq.ofQ (h:=zD hc i);rw[show c.m i*(c.s (i+1)-c.s i)=lw c.s c.m i from O]at m1;have a1:=eY (ofQ (aq (lw c.s c.m) i)) (ofQ (lw c.s c.m i)) (hx:=v2) (hy:=v3) J Y;rw[show aq (lw c.s c.m) i+lw c.s c.m i=aq (lw c.s c.m) (i+1) from O]at a1;rw[show min i (c.S.length-1)=i by omega];generalize ofQ (aq (lw c.s c.m) i)=K0 at *
   generalize hK1:ofQ (aq (lw c.s c.m) (i+1))=K1 at *
   generalize ofQ (lw c.s c.m i)=T0,ofQ (c.s (i+1)-c.s i)=D0 at *
   refine aQ hx ?_;refine H ?_;rw[hw];refine aS O ?_ ?_<;>intro h
   .clear h;refine cO 17 [30,31,32,33,34,35,36,37,38,39,40,41,42,43,44,45,46] ?_;refine aQ hmx ?_;refine H ?_;rw[hw];refine tK O O O O O O O hy O ?_;refine H ?_;rw[hd];refine sT O O O hnum O O ?_;refine G m1 ?_;refine G a1 ?_;refine H ?_;refine⟨i+1,⟨J,fun h=>by omega⟩,J,O,O,O,O,O,congrArg I hw,O,O,?_,trivial⟩;show(_:Nat × Option Cont)=(1,some (Cont.mk 42 4 [eR (ofQ (aq (lw c.s c.m) (min (i+1) (c.S.length-1))))] 2));rw[show min (i+1) (c.S.length-1)=i+1 by omega,hK1];rfl
   .have:=aE h;exfalso;omega
  .have hie:i+1=c.S.length:=J;have hiz:=FR (c.M.getD i RR.zero) (hx:=Co c hc i) Y;have hbf:cE c.m c.S.length=c.m i:=by rw[<-hie];rfl
   rw[show min i (c.S.length-1)=i by omega];by_cases hm:c.m i=0
   .rw[decide_eq_true hm]at hiz;refine aQ hx ?_;refine H ?_;rw[hw];refine aS O ?_ ?_<;>intro h
    .have:=aB h;exfalso;omega
    .clear h;refine aQ hmx ?_;refine aj hiz ?_;refine H ?_;refine⟨i+1,⟨J,fun _=>by rw[hbf];exact hm⟩,J,O,O,O,O,O,congrArg I hw,O,O,?_,trivial⟩;show(_:Nat × Option Cont)=(1,some (Cont.mk 42 4 [eR (ofQ (aq (lw c.s c.m) (min (i+1) (c.S.length-1))))] 2));rw[show min (i+1) (c.S.length-1)=i by omega];rfl
   .rw[decide_eq_false hm]at hiz;rw[if_neg (by rw[hbf];exact hm)]at hR;subst hR;refine aQ hx ?_;refine H ?_;rw[hw];refine aS O ?_ ?_<;>intro h
    .have:=aB h;exfalso;omega
    .clear h;refine aQ hmx ?_;refine aj hiz ?_;exact bW
 .have hie:i=c.S.length:=by have:=aE h;omega
  clear h;have hb:=hlast hie;rw[if_pos hb,Fv hb]at hR;subst hR;rw[show min i (c.S.length-1)=c.S.length-1 by omega];exact bW
theorem DU (w:Int)(hw:i64 w)(x:RR)(r:AR){p A B:Rat}{k n m:Nat}(hx:Vq x p k)(hr:Va r A B n m)(h1:k<=1000000)(h2:n<=1000000)(h3:m<=1000000):aO 247 [I w,.agg (eR x),.agg (eA r)] (.agg (eR (ofQ ((w:Rat)*(A+B*p))))):=by
 have zw:Zb w:=aJ hw.1 hw.2;have d1:=cC w hw;have d2:=i7 r.t x (hx:=hr.t) (hy:=hx) J J;have v2:Vq (ofQ (B*p)) (B*p) (m+1+(k+1)):=Vq.ofQ (h:=@HQ.mul _ _ (m+1) (k+1) hr.t.hq hx.hq);have d3:=eY r.z (ofQ (B*p)) (hx:=hr.z) (hy:=v2) J J;have v3:Vq (ofQ (A+B*p)) (A+B*p) (n+1+(m+1+(k+1))+1):=Vq.ofQ (h:=@HQ.add _ _ (n+1) _ hr.z.hq (iJ v2));have d4:=i7 (ofQ (w:Rat)) (ofQ (A+B*p)) (hy:=v3) Y J;generalize ofQ ((w:Rat)*(A+B*p))=X4,ofQ (A+B*p)=X3,ofQ (B*p)=X2,ofQ (w:Rat)=X1 at *
 obtain⟨az,at'⟩:=r;try simp only at *
 refine ax Proofs.Tryz.func247 ?_;refine cO 10 [7,8,9,10,11,12,13,14,15,16] ?_;refine G d1 ?_;refine G d2 ?_;refine G d3 ?_;refine G d4 ?_;exact bW
def cI (l:List SR)(i:Nat):Rat:=xU (l.getD i dS).k.S.length (l.getD i dS).k.s (l.getD i dS).k.m
def P9 (l:List SR)(i:Nat):Prop:=cE (l.getD i dS).k.m (l.getD i dS).k.S.length=0
def yT (l:List SR)(A B:Rat)(i:Nat):Rat:=if 0<A+B*xI l i then cI l i*(A+B*xI l i) else 0
def nt (l:List SR)(A B:Rat)(n:Nat):Prop:=∀i,i<n->0<A+B*xI l i->P9 l i
noncomputable def Ov (l:List SR)(A B:Rat):PV:=@ite _ (nt l A B l.length) (Classical.propDecidable _) (.tup [.agg (eR (ofQ (aq (yT l A B) l.length))),.bool true]) (.tup [.agg zN,.bool false])
theorem Jt {c:CR}(hc:c.Lim)(h8:c.S.length<=8)(h0:cE c.m c.S.length=0):HQ (xU c.S.length c.s c.m) 200:=by
 rw[Fv h0];exact(b9 (c.S.length-1) fun k _=>zD hc k).mono J
theorem Po {l:List SR}(hl:ma l)(hf:xT l){A B:Rat}{n m:Nat}(hA:HQ A n)(hB:HQ B m){i:Nat}(hi:i<l.length)(ha:0<A+B*xI l i->P9 l i):HQ (yT l A B i) (200+(n+(m+4)+1)):=by
 rw[yT];split
 .rename_i h;have hx:=(hl.1 _ (bR hi)).x;have hx:Zb (l.getD i dS).x:=aJ hx.1 hx.2;exact @HQ.mul _ _ 200 (n+(m+4)+1) (Jt (hl.1 _ (bR hi)).k (hf.2 _ (bR hi)) (ha h)) (@HQ.add _ _ n (m+4) hA (@HQ.mul _ _ m 4 hB HQ.int))
 .exact HQ.zero.mono J
theorem IV (l:List SR)(hl:ma l)(hf:xT l)(hck:dV l=0)(r:AR){A B:Rat}{n m:Nat}(hr:Va r A B n m)(h2:n<=100000)(h3:m<=100000):aO 246 [.sl (l.map eS),.agg (eA r)] (Ov l A B):=by
 have hw0:=cC 0 ⟨Y,Y⟩;rw[show(((0:Int):Rat))=0 from O]at hw0;have hml:(l.map eS).length=l.length:=ao;have hz:=hr.z.hq;have ht:=hr.t.hq;have h12:=hf.1;generalize hR:Ov l A B=R;rw[Ov]at hR;obtain⟨rz,rt⟩:=r;have hrz:=hr.z;have hrt:=hr.t;simp only at hrz hrt;refine ax Proofs.Tryz.func246 ?_;refine G hw0 ?_;refine H ?_;refine ah (fun i:Nat=>i<=l.length/\nt l A B i) (fun i=>[(3,.ptr 3 1 0 0),(4,.ptr 4 1 0 0),(6,.ptr 6 1 0 0),(14,.sl (l.map eS)),(15,I l.length),(16,I (i:Nat))])
  (fun i=>[(3,1,⟨71,8,[eA ⟨rz,rt⟩],2⟩),(4,1,⟨42,4,[zN],2⟩),(6,1,⟨42,4,[eR (ofQ (aq (yT l A B) i))],2⟩)]) (fun i=>l.length-i) 0 ⟨aP _,fun i hi=>by omega⟩ ⟨O,O,O,O,by rw[<-hml];rfl,O,O,O,O,trivial⟩ ?_
 intro i s ⟨hi,hall⟩;refine D ?_ ?_<;>intro h
 .have hlt:i<l.length:=by have:=aB h;omega
  clear h;have hx:=bF (d:=dS) hlt;have hsl:=hl.1 _ (bR hlt);have h8:=hf.2 _ (bR hlt);have hkc:=eZ hck _ (bR hlt);have hxx:=hsl.x;have hzb:Zb (l.getD i dS).x:=aJ hxx.1 hxx.2;have hw:=fg i;have e1:=cC (l.getD i dS).x hxx;rw[show((l.getD i dS).x:Rat)=xI l i from O]at e1;have vx:Vq (ofQ (xI l i)) (xI l i) 4:=Vq.ofQ (h:=HQ.int);have e2:=i7 rt (ofQ (xI l i)) (hx:=hrt) (hy:=vx) J Y;have v2:Vq (ofQ (B*xI l i)) (B*xI l i) (m+1+4):=Vq.ofQ (h:=@HQ.mul _ _ (m+1) 4 ht HQ.int);have e3:=eY rz (ofQ (B*xI l i)) (hx:=hrz) (hy:=v2) J J;have v3:Vq (ofQ (A+B*xI l i)) (A+B*xI l i) (n+1+(m+1+4)+1):=Vq.ofQ (h:=@HQ.add _ _ (n+1) _ hz (iJ v2));have e4:=xi (ofQ (A+B*xI l i)) (hx:=v3) J;have hsg:=nU (A+B*xI l i);by_cases hd:0<A+B*xI l i
  .have hsn:¬sgn (A+B*xI l i)<=0:=fun h=>by have:=hsg.1 h;grind
   have e5:=zE (l.getD i dS).k hsl.k hkc;rw[MN]at e5;generalize sgn (A+B*xI l i)=g at *
   by_cases hlim:P9 l i
   .rw[if_pos (show cE (l.getD i dS).k.m (l.getD i dS).k.S.length=0 from hlim)]at e5;have hcl:=Jt hsl.k h8 hlim;rw[show xU (l.getD i dS).k.S.length (l.getD i dS).k.s (l.getD i dS).k.m=cI l i from O]at e5 hcl;have vc:Vq (ofQ (cI l i)) (cI l i) 200:=Vq.ofQ (h:=hcl);have e6:=i7 (ofQ (cI l i)) (ofQ (A+B*xI l i)) (hx:=vc) (hy:=v3) Y J;have hall':nt l A B (i+1):=fun j hj hp=>by
     by_cases hje:j=i
     .subst hje;exact hlim
     .exact hall j J hp
    have v6:Vq (ofQ (cI l i*(A+B*xI l i))) (cI l i*(A+B*xI l i)) (200+(n+1+(m+1+4)+1)):=Vq.ofQ (h:=@HQ.mul _ _ 200 _ hcl (iJ v3));have v7:Vq (ofQ (aq (yT l A B) i)) (aq (yT l A B) i) (i*(200+(n+1+(m+1+4)+1)+1)+4):=Vq.ofQ (h:=b9 i fun k hk=>Po hl hf hz ht J (hall k hk));have e7:=eY (ofQ (aq (yT l A B) i)) (ofQ (cI l i*(A+B*xI l i))) (hx:=v7) (hy:=v6) (by have:=et (show i<=12 by omega) (show 200+(n+1+(m+1+4)+1)+1<=200208 by omega);omega) J;rw[show aq (yT l A B) i+cI l i*(A+B*xI l i)=aq (yT l A B) (i+1) by rw[aq,yT,if_pos hd]]at e7;generalize ofQ (aq (yT l A B) i)=K0 at *
    generalize hK1:ofQ (aq (yT l A B) (i+1))=K1 at *
    generalize ofQ (cI l i*(A+B*xI l i))=P0,ofQ (cI l i)=C0,ofQ (A+B*xI l i)=D0,ofQ (B*xI l i)=D1,ofQ (xI l i)=D2 at *
    refine aQ hx ?_;refine cN 5 ?_;refine am (fp 9) ?_;refine be [(9,9),(10,9)] aK aK ?_;refine G e1 ?_;refine G e2 ?_;refine G e3 ?_;refine aj e4 ?_;refine D ?_ ?_<;>intro h
    .exact absurd (aB h) hsn
    clear h;refine G e5 ?_;refine cO 5 [42,43,44,45,46] ?_;refine G e6 ?_;refine G e7 ?_;refine H ?_;refine⟨i+1,⟨J,hall'⟩,J,O,O,O,O,O,congrArg I hw,O,O,?_,trivial⟩;show(_:Nat × Option Cont)=(1,some (Cont.mk 42 4 [eR (ofQ (aq (yT l A B) (i+1)))] 2));rw[hK1];rfl
   .rw[if_neg (show ¬cE (l.getD i dS).k.m (l.getD i dS).k.S.length=0 from hlim)]at e5;rw[if_neg (fun h=>hlim (h i hlt hd))]at hR;subst hR;generalize ofQ (A+B*xI l i)=D0,ofQ (B*xI l i)=D1,ofQ (xI l i)=D2 at *
    refine aQ hx ?_;refine cN 5 ?_;refine am (fp 9) ?_;refine be [(9,9),(10,9)] aK aK ?_;refine G e1 ?_;refine G e2 ?_;refine G e3 ?_;refine aj e4 ?_;refine D ?_ ?_<;>intro h
    .exact absurd (aB h) hsn
    clear h;refine G e5 ?_;exact bW
  .have hsn:sgn (A+B*xI l i)<=0:=hsg.2 bM;have hall':nt l A B (i+1):=fun j hj hp=>by
    by_cases hje:j=i
    .subst hje;exact absurd hp hd
    .exact hall j J hp
   have hsum:aq (yT l A B) (i+1)=aq (yT l A B) i:=by rw[aq,yT,if_neg hd];grind
   generalize sgn (A+B*xI l i)=g,ofQ (A+B*xI l i)=D0,ofQ (B*xI l i)=D1,ofQ (xI l i)=D2 at *
   refine aQ hx ?_;refine cN 5 ?_;refine am (fp 9) ?_;refine be [(9,9),(10,9)] aK aK ?_;refine G e1 ?_;refine G e2 ?_;refine G e3 ?_;refine aj e4 ?_;refine D ?_ ?_<;>intro h
   .clear h;refine H ?_;refine⟨i+1,⟨J,hall'⟩,J,O,O,O,O,O,congrArg I hw,O,O,?_,trivial⟩;show(_:Nat × Option Cont)=(1,some (Cont.mk 42 4 [eR (ofQ (aq (yT l A B) (i+1)))] 2));rw[hsum];rfl
   .exact absurd hsn (aE h)
 .have hie:i=l.length:=by have:=aE h;omega
  clear h;subst hie;rw[if_pos hall]at hR;subst hR;exact bW
noncomputable def sV (b:BR)(A B:Rat):Bool:=@decide (nt b.l A B b.l.length/\aq (yT b.l A B) b.l.length<(b.w:Rat)*(A+B*b.a.val)) (Classical.propDecidable _)
theorem tO (b:BR)(hb:b.Ok)(r:AR){A B:Rat}{n m:Nat}(hr:Va r A B n m)(h2:n<=90000)(h3:m<=90000):aO 200 [.agg (eB b),.agg (eA r)] (.bool (sV b A B)):=by
 have h1:=IV b.l hb.lim.l hb.few hb.chkL r hr J J;have zw:Zb b.w:=aJ hb.lim.w.1 hb.lim.w.2;have hd:=DU b.w hb.lim.w b.a r hb.lim.a.v hr Y J J;have vd:Vq (ofQ ((b.w:Rat)*(A+B*b.a.val))) ((b.w:Rat)*(A+B*b.a.val)) (4+(n+1+(m+1+13)+1)):=Vq.ofQ (h:=@HQ.mul _ _ 4 _ HQ.int (@HQ.add _ _ (n+1) _ hr.z.hq (@HQ.mul _ _ (m+1) 13 hr.t.hq hb.lim.a.v.hq)));rw[Ov]at h1;by_cases hall:nt b.l A B b.l.length
 .rw[if_pos hall]at h1;have h12:=hb.few.1;have hs:=b9 (m:=200+(n+1+(m+1+4)+1)) b.l.length fun k hk=>Po hb.lim.l hb.few hr.z.hq hr.t.hq hk (hall k hk);have vs:Vq (ofQ (aq (yT b.l A B) b.l.length)) (aq (yT b.l A B) b.l.length) (b.l.length*(200+(n+1+(m+1+4)+1)+1)+4):=Vq.ofQ (h:=hs);have hc:=kw (ofQ (aq (yT b.l A B) b.l.length)) (ofQ ((b.w:Rat)*(A+B*b.a.val))) (hx:=vs) (hy:=vd) (by have:=et (show b.l.length<=12 by omega) (show 200+(n+1+(m+1+4)+1)+1<=180210 by omega);omega) J;have hsl:=cX (aq (yT b.l A B) b.l.length-(b.w:Rat)*(A+B*b.a.val));have key:sV b A B=decide (sgn (aq (yT b.l A B) b.l.length-(b.w:Rat)*(A+B*b.a.val))<0):=by
   rw[sV,decide_eq_decide,hsl];constructor
   .intro h;have:=h.2;grind
   .intro h;exact⟨hall,bM⟩
  rw[key];generalize sgn (aq (yT b.l A B) b.l.length-(b.w:Rat)*(A+B*b.a.val))=g,ofQ (aq (yT b.l A B) b.l.length)=S,ofQ ((b.w:Rat)*(A+B*b.a.val))=D0 at *
  obtain⟨w,ba,l⟩:=b;obtain⟨rz,rt⟩:=r;try simp only at *
  refine ax Proofs.Tryz.func200 ?_;refine G h1 ?_;refine cO 13 [14,15,16,17,18,19,20,21,22,23,24,25,4] ?_;refine G hd ?_;refine aj hc ?_;exact fC
 .rw[if_neg hall]at h1;have key:sV b A B=false:=by
   unfold sV;exact @decide_eq_false _ (Classical.propDecidable _) (fun h=>hall h.1)
  rw[key];clear hd vd;obtain⟨w,ba,l⟩:=b;obtain⟨rz,rt⟩:=r;try simp only at *
  refine ax Proofs.Tryz.func200 ?_;refine G h1 ?_;refine cO 13 [14,15,16,17,18,19,20,21,22,23,24,25,4] ?_;exact fC
end Go.Pv
namespace Go.Pv
open Go.RowKit Go.Sort
section
variable {P:Program}{L:df}{C:Ctx}{γ:Nat->Option Nat}{s:St}{a:Act}{w w':World}
structure Chg (w w':World) (b:Nat) (T:TypeId) (cur:Array Value):Prop where
 os:w'.os=w.os
 tape:w'.tape=w.tape
 output:w'.output=w.output
 size:w.heap.size<=w'.heap.size
 other:∀b',b'≠b->b'<w.heap.size->w'.heap[b']? = w.heap[b']?
 at_:w'.heap[b]? = some (.cells cur T (0,0))
theorem MP (h:Sim C γ s a w){k g b:Nat}{c c':Cont}{cur cur':Array Value}(ho:s.own k=(g,some c))(hb:γ k=some b)(hh:w.heap[b]? = some (.cells cur c.ty (0,0)))(hsz:cur'.size=cur.size)
  (hc:Chg w w' b c.ty cur') (h1:c'.ty=c.ty) (h2:c'.sz=c.sz) (h3:c.rows.length<=c'.rows.length) (hs:SiteOk (aD C γ (s.setOwn k g (some c')) (w.setRow b cur')) (some b) c'):Sim C γ (s.setOwn k g (some c')) a w':=by
 refine(zf h ho hb hh hsz h1 h2 h3 hs).ext ⟨hc.os,hc.tape,hc.output,by simpa using hc.size,fun b' hb'=>?_⟩;have hb'':b'<w.heap.size:=by simpa using hb'
 by_cases he:b'=b
 .subst he;rw[hc.at_,setRow_heap w b' cur cur' c.ty (0,0) hh]
 .rw[hc.other b' he hb'',setRow_other w b b' cur' he]
theorem Fw {α:Type}[Inhabited α]{e:α->Value}{q b:Nat}{d':Array α}{os:Array Obj}{T:TypeId}{cur:Array Value}(hh:w.heap[b]? = some (.cells cur T (0,0)))(hw:w'=grow (putRow e (Sort.ahead w q) b 0 d') os):Chg w w' b T (putCells e 0 d' cur):=by
 have hlt:b<w.heap.size:=(iu hh).1;subst hw;refine⟨O,O,O,ao,fun b' hne hb'=>?_,?_⟩
 .rw[heap_grow_old _ _ (by simpa using hb')];show(w.heap.modify b _)[b']? = _;rw[rj,if_neg (Ne.symm hne)]
 .rw[heap_grow_old _ _ (by simpa using hlt)];show(w.heap.modify b _)[b]? = _;rw[rj,if_pos O,hh];rfl
theorem pw {α:Type}[Inhabited α](e:α->Value)(off:Nat)(d:Array α)(c:Array Value):(putCells e off d c).size=c.size:=by simp[putCells]
theorem pz {α:Type}[Inhabited α](e:α->Value)(d:Array α)(c:Array Value)(h:d.size<=c.size):(putCells e 0 d c).toList.take d.size=d.toList.map e:=by
 apply List.ext_getElem
 .simp[putCells];omega
 intro i h1 h2;have hi:i<d.size:=by simpa using h2
 simp[putCells,hi]
theorem Ew {E:Env}{k:Nat}{c:PV}(h:jy c=true):KRep E k c (Pc c):=by
 match k with
 |0=>exact(jz h _ _).1
 |1=>exact(jz h _ _).1
 |_+2=>exact .d (jz h _ _).1
def nf {α:Type}(enc:α->List PV)(l:List α):List Value:=l.flatMap fun x=>(enc x).map Pc
theorem Ht {α:Type}{enc:α->List PV}{sz:Nat}(h:∀x,(enc x).length=sz)(l:List α):(nf enc l).length=l.length*sz:=by
 induction l with
 |nil=>simp[nf]
 |cons x l ih=>simp only[nf,j7,bI,aR,eO,h,cb,fK]at ih ⊢;omega
theorem qW {α:Type}{enc:α->List PV}{sz:Nat}(h:∀x,(enc x).length=sz):∀(l:List α) (i j:Nat) (x:α) (c:PV),l[i]? = some x->(enc x)[j]? = some c->(nf enc l)[i*sz+j]? = some (Pc c)
 |[],i,j,x,c,h1,_=>by simp at h1
 |y::l,0,j,x,c,h1,h2=>by
  simp at h1;subst h1;have hj:=(bV h2).1;rw[nf,j7,gd aV,bD,f7,aX,h2];rfl
 |y::l,i+1,j,x,c,h1,h2=>by
  have ih:=qW h l i j x c (by simpa using h1) h2;rw[nf,j7,eM (by rw[aR,h,cb];omega),aR,h];rw[show(i+1)*sz+j-sz=i*sz+j by rw[cb];omega];exact ih
theorem GL {l m:List Value}{n i:Nat}{v:Value}(h:l.take n=m)(hi:m[i]? = some v):l[i]? = some v:=by
 rw[<-h,cz]at hi;split at hi
 .exact hi
 .cases hi
def SN (ro:Option Nat)(a:Option Addr)(cap:Nat):Value:=match ro with
 |none => .tuple #[]
 |some n => .slice a n cap
def To (ro:Option Nat)(k g:Nat):PV:=match ro with
 |none => .tup []
 |some n => .als k g 0 n
variable [Globs]
theorem xr {α:Type}{enc:α->List PV}{l:List α}{d k g m sz kd f:Nat}{T ty:TypeId}{pos:String}{af:Array Edge}{x fop:Operand}{more:List Operand}{mv:List FuncId}{tys:Array TypeId}{K:St->Prop}(ro:Option Nat)(Q:List α->Prop)
  (hpl:∀x,(enc x).all jy=true) (hlen:∀x,(enc x).length=sz) (hsz:0<sz) (hf:s.ev fop = .clo f []) (hx:s.ev x = .als k g 0 m) (hm:m=l.length) (ho:s.own k=(g,some ⟨T,sz,l.map enc,kd⟩)) (hmore:more.map s.ev=mv.map fun f => .clo f []) (hcal:jQ P f) (hro:∀n,ro=some n->n<=l.length)
  (h0:l=[]->Q []/\∀w:World,Globs.glob w->Calls P f (Value.slice none 0 0::mv.map fun f => .func (.func f) #[] #[]).toArray w fun e w'=>e = .returned (SN ro none 0)/\Below w.heap.size w w')
  (hcall:∀(w:World) (b cap:Nat) (cur:Array Value),w.heap[b]? = some (.cells cur T (0,0))->l.length<=cap->l.length*sz<=cur.size->cur.toList.take (l.length*sz)=nf enc l->Globs.glob w ->
   Calls P f (Value.slice (some ⟨b,0,none⟩) l.length cap::mv.map fun f => .func (.func f) #[] #[]).toArray w fun e w'=>∃l' cur',Q l'/\l'.length=l.length/\e = .returned (SN ro (some ⟨b,0,none⟩) cap)/\Chg w w' b T cur'/\cur'.size=cur.size/\cur'.toList.take (l.length*sz)=nf enc l')
  (h:∀l',Q l'->l'.length=l.length->K ((s.setOwn k g (some ⟨T,sz,l'.map enc,kd⟩)).putR d (To ro k g))):Sm P L s ⟨some d,.call ⟨.value fop,(x::more).toArray,tys⟩,ty,pos,af,none⟩ K:=by
 intro C a w Qp hG hs hN;obtain⟨γ,hs⟩:=hs;have hfv:=hs.ev fop;rw[hf]at hfv;obtain⟨vs,hv,hl,_⟩:=hfv.clo_inv;have hvs:vs=[]:=iz (by simpa using hl.symm);subst hvs;have hmv:more.map a.eval=mv.map fun f=>Value.func (.func f) #[] #[]:=by
  clear h0 hcall h
  induction more generalizing mv with
  |nil=>cases mv with
   |nil=>rfl
   |cons f mv=>simp at hmore
  |cons y more ih=>cases mv with
   |nil=>simp at hmore
   |cons f mv =>
    simp only[iD,List.cons.injEq]at hmore ⊢;have hy:=hs.ev y;rw[hmore.1]at hy;obtain⟨vs,hv,hl,_⟩:=hy.clo_inv;have hvs:vs=[]:=iz (by simpa using hl.symm);subst hvs;exact⟨hv,ih hmore.2 hN⟩
 have hxr:=hs.ev x;rw[hx]at hxr;have hals:=hs.als_at hxr ho;unfold Oper.wp;rw[nT (f:=f) O hv hcal,Oper.upon_enter];simp only[iD,b8,hmv];have hglob:=hG.glob _ hs.below;rcases hals with⟨h1,_,h3,h4⟩|⟨b,cap,cur,h1,h2,h3,h4,h5,h6,h7⟩
 .have hnil:l=[]:=iz J;rw[h4];refine((h0 hnil).2 w hglob).mono ?_;rintro e w' ⟨rfl,hbel⟩;have hs':=hs.ext hbel;have hst:s=s.setOwn k g (some ⟨T,sz,l.map enc,kd⟩):=by
   have:s.own=(s.setOwn k g (some ⟨T,sz,l.map enc,kd⟩)).own:=by
    funext r;by_cases hr:r=k
    .subst hr;rw[ar,ho]
    .rw[aN hr]
   cases s;simp only[St.setOwn]at this ⊢;rw[<-this]
  have hKs:=h [] (h0 hnil).1 (by rw[hnil]);rw[hnil]at hst;rw[<-hst]at hKs;refine⟨_,⟨γ,hs'.put (d:=some d) hN ?_⟩,hKs⟩;cases ro with
  |none=>exact .tup [] [] rfl fun i c v e=>by simp at e
  |some n =>
   have hn:=hro n O;rw[hnil]at hn;have hn0:n=0:=by simpa using hn
   subst hn0;refine .als (by simp[aD,ho]) fun _ l2 hl2=>?_;simp only[aD,ho,c9,bg]at hl2;subst hl2;exact .inl ⟨h1,O,O,O⟩
 .subst hm;rw[h2];simp only[f7];have h3:w.heap[b]? = some (.cells cur T (0,0)):=h3;have hz:(0+cap)*sz=cap*sz:=by rw[aX]
  have hcs:cur.size=cap*sz:=by rw[<-hz];exact h6
  have hle:l.length*sz<=cur.size:=by rw[hcs];exact cu _ h4
  obtain⟨cur0,g1,_,_,g4,g5⟩:=hs.site_at ho h1 hsz;have g1:w.heap[b]? = some (.cells cur0 T (0,0)):=g1;rw[h3]at g1;simp only[bg,Obj.cells.injEq,and_true]at g1;subst g1;have hflat:cur.toList.take (l.length*sz)=nf enc l:=by
   apply i4;intro q;by_cases hq:q<l.length*sz
   .have hqi:q/sz<l.length:=(uu hsz).2 hq;have hqj:q%sz<sz:=fL _ hsz;have hqe:q/sz*sz+q%sz=q:=by rw[c_];exact ms q sz
    have hx1:l[q/sz]? = some l[q/sz]:=bU hqi;have hx2:(enc l[q/sz])[q%sz]? = some ((enc l[q/sz])[q%sz]'(by rw[hlen];exact hqj)):=bU _;obtain⟨v,e1,_,e3⟩:=g5 (q/sz) (q%sz) (enc l[q/sz]) _ (by rw[bD,hx1];rfl) hx2;have hpv:=cm.1 (hpl l[q/sz]) _ (bm hx2);have hv:=sN hpv (e3.rep bk);have:=qW hlen l (q/sz) (q%sz) _ _ hx1 hx2;rw[hqe]at this e1;rw[this,cz,if_pos hq,gR,e1,hv]
   .rw[cz,if_neg hq,fi (by rw[Ht hlen];omega)]
  refine(hcall w b cap cur h3 h4 hle hflat hglob).mono ?_;rintro e w' ⟨l',cur',hQ,hl',rfl,hchg,hcz,hfl⟩;have hsite:SiteOk (aD C γ (s.setOwn k g (some ⟨T,sz,l'.map enc,kd⟩)) (w.setRow b cur')) (some b) ⟨T,sz,l'.map enc,kd⟩:=by
   refine⟨(fun e=>by cases e),(fun b' _ hz=>by simp only at hz;omega),(fun b' _ hz=>by simp only at hz;omega),fun b' hb' _=>?_⟩;simp at hb';subst hb';refine⟨cur',setRow_heap w b cur cur' T (0,0) h3,hsz,by simp only[aR];rw[hl',hcz];exact hle,fun row hr=>?_,fun i j row pv e1 e2=>?_⟩
   .simp only[bX]at hr;obtain⟨y,_,rfl⟩:=hr;exact hlen y
   .simp only[bD,mw]at e1;obtain⟨y,hy,rfl⟩:=e1;have hpv:=cm.1 (hpl y) _ (bm e2);have:=GL hfl (qW hlen l' i j y pv hy e2);exact⟨Pc pv,by rw[<-gR];exact this,(jz hpv w (fun _=>True)).2,Ew hpv⟩
  have hsim:=MP (c':=⟨T,sz,l'.map enc,kd⟩) hs ho h1 h3 hcz hchg O O (by simp[hl']) hsite;refine⟨_,⟨γ,hsim.put (d:=some d) hN ?_⟩,h l' hQ hl'⟩;cases ro with
  |none=>exact .tup [] [] rfl fun i c v e=>by simp at e
  |some n =>
   have hn:=hro n O;refine .als (by simp[aD,ar]) fun _ l2 hl2=>?_;simp only[aD,ar,c9,bg]at hl2;subst hl2;exact .inr ⟨b,cap,cur',h1,by simp[SN],hchg.at_,J,h5,by rw[hcz];exact h6,by simp;omega⟩
end
end Go.Pv
namespace Go.Proofs
open Go.Shelf
def Tryz.lays189_ren:Go.Shelf.Ren:=⟨fun|189=>275|125=>289|257=>288|128=>301|129=>302|294=>292|295=>293|296=>294|297=>295|298=>296|299=>297|216=>298|300=>299|301=>300|328=>305|329=>306|330=>307|331=>308|332=>309|215=>310|343=>312|n=>n,fun|28=>92|3=>3|46=>278|0=>0|51=>320|53=>226|4=>4|183=>337|182=>336|131=>89|5=>5|9=>9|218=>347|222=>351|228=>353|229=>354|n=>n,fun|n=>n⟩
theorem Tryz.lays189:Go.Proofs.Lays.n189 Tryz.prog Tryz.lays189_ren:={
 mixed:=by kernel_rfl
 f125:=Tryz.func289.trans (congrArg some (by kernel_rfl))
 f128:=Tryz.func301.trans (congrArg some (by kernel_rfl))
 f129:=Tryz.func302.trans (congrArg some (by kernel_rfl))
 f189:=Tryz.func275.trans (congrArg some (by kernel_rfl))
 f215:=Tryz.func310.trans (congrArg some (by kernel_rfl))
 f216:=Tryz.func298.trans (congrArg some (by kernel_rfl))
 f257:=Tryz.func288.trans (congrArg some (by kernel_rfl))
 f294:=Tryz.func292.trans (congrArg some (by kernel_rfl))
 f295:=Tryz.func293.trans (congrArg some (by kernel_rfl))
 f296:=Tryz.func294.trans (congrArg some (by kernel_rfl))
 f297:=Tryz.func295.trans (congrArg some (by kernel_rfl))
 f298:=Tryz.func296.trans (congrArg some (by kernel_rfl))
 f299:=Tryz.func297.trans (congrArg some (by kernel_rfl))
 f300:=Tryz.func299.trans (congrArg some (by kernel_rfl))
 f301:=Tryz.func300.trans (congrArg some (by kernel_rfl))
 f328:=Tryz.func305.trans (congrArg some (by kernel_rfl))
 f329:=Tryz.func306.trans (congrArg some (by kernel_rfl))
 f330:=Tryz.func307.trans (congrArg some (by kernel_rfl))
 f331:=Tryz.func308.trans (congrArg some (by kernel_rfl))
 f332:=Tryz.func309.trans (congrArg some (by kernel_rfl))
 f343:=Tryz.func312.trans (congrArg some (by kernel_rfl))
 t0:=Tryz.underlying0
 a0:=Tryz.isAgg0
 z0:=Tryz.sizeOf0
 v0:=Tryz.zeroValue0
 t3:=Tryz.underlying3
 a3:=Tryz.isAgg3
 z3:=Tryz.sizeOf3
 v3:=Tryz.zeroValue3
 t4:=Tryz.underlying4
 a4:=Tryz.isAgg4
 z4:=Tryz.sizeOf4
 v4:=Tryz.zeroValue4
 t5:=Tryz.underlying5
 a5:=Tryz.isAgg5
 z5:=Tryz.sizeOf5
 v5:=Tryz.zeroValue5
 t9:=Tryz.underlying9
 a9:=Tryz.isAgg9
 z9:=Tryz.sizeOf9
 v9:=Tryz.zeroValue9
 t28:=Tryz.underlying92
 a28:=Tryz.isAgg92
 z28:=Tryz.sizeOf92
 v28:=Tryz.zeroValue92
 t46:=Tryz.underlying278
 a46:=Tryz.isAgg278
 z46:=Tryz.sizeOf278
 v46:=Tryz.zeroValue278
 t51:=Tryz.underlying320
 a51:=Tryz.isAgg320
 z51:=Tryz.sizeOf320
 v51:=Tryz.zeroValue320
 t53:=Tryz.underlying226
 a53:=Tryz.isAgg226
 z53:=Tryz.sizeOf226
 v53:=Tryz.zeroValue226
 t131:=Tryz.underlying89
 a131:=Tryz.isAgg89
 z131:=Tryz.sizeOf89
 v131:=Tryz.zeroValue89
 t182:=Tryz.underlying336
 a182:=Tryz.isAgg336
 z182:=Tryz.sizeOf336
 v182:=Tryz.zeroValue336
 t183:=Tryz.underlying337
 a183:=Tryz.isAgg337
 z183:=Tryz.sizeOf337
 v183:=Tryz.zeroValue337
 t218:=Tryz.underlying347
 a218:=Tryz.isAgg347
 z218:=Tryz.sizeOf347
 v218:=Tryz.zeroValue347
 t222:=Tryz.underlying351
 a222:=Tryz.isAgg351
 z222:=Tryz.sizeOf351
 v222:=Tryz.zeroValue351
 t228:=Tryz.underlying353
 a228:=Tryz.isAgg353
 z228:=Tryz.sizeOf353
 v228:=Tryz.zeroValue353
 t229:=Tryz.underlying354
 a229:=Tryz.isAgg354
 z229:=Tryz.sizeOf354
 v229:=Tryz.zeroValue354 }
open Go.Sort Go.RowKit in
theorem Tryz.slices_Sort_int (blk off cap:Nat)(zs:List Int)(w:World)(hH:Holds (Value.int .i64) w blk off zs.toArray)(hblk:blk<w.heap.size)(hsz:zs.length<4611686018427387904) :
  Calls Tryz.prog 275 #[.slice (some ⟨blk,off,none⟩) zs.length cap] w fun e w' =>
   e = .returned (.tuple #[])/\∃n os,w'=grow (putRow (Value.int .i64) (Sort.ahead w n) blk off (zs.mergeSort fun x y=>decide (x<=y)).toArray) os:=Any.slices_Sort_int Tryz.lays189 blk off cap zs w hH hblk hsz
def Tryz.laysNm220_ren:Go.Shelf.Ren:=⟨fun|20=>276|n=>n,fun|22=>92|3=>3|4=>4|0=>0|n=>n,fun|n=>n⟩
theorem Tryz.laysNm220:Go.Proofs.Lays2.n20 Tryz.prog Tryz.laysNm220_ren:={
 mixed:=by kernel_rfl
 f20:=Tryz.func276.trans (congrArg some (by kernel_rfl))
 t0:=Tryz.underlying0
 a0:=Tryz.isAgg0
 z0:=Tryz.sizeOf0
 v0:=Tryz.zeroValue0
 t3:=Tryz.underlying3
 a3:=Tryz.isAgg3
 z3:=Tryz.sizeOf3
 v3:=Tryz.zeroValue3
 t4:=Tryz.underlying4
 a4:=Tryz.isAgg4
 z4:=Tryz.sizeOf4
 v4:=Tryz.zeroValue4
 t22:=Tryz.underlying92
 a22:=Tryz.isAgg92
 z22:=Tryz.sizeOf92
 v22:=Tryz.zeroValue92
 i3:=by kernel_rfl }
open Go.RowKit Go.Lib Go.Sort in
theorem Tryz.slices_Compact_int (blk off cap:Nat)(zs:List Int)(w:World)(hH:Holds (Value.int .i64) w blk off zs.toArray)(hsz:zs.length<=9223372036854775807)(hcap:zs.length<=cap) :
  Calls Tryz.prog 276 #[.slice (some ⟨blk,off,none⟩) zs.length cap] w fun e w'=>e = .returned (.slice (some ⟨blk,off,none⟩) (Lib.compact zs).length cap)/\∃q,w'=putRow (Value.int .i64) (Sort.ahead w q) blk off (Lib.compact zs++List.replicate (zs.length-(Lib.compact zs).length) 0).toArray:=Any.slices_Compact_int Tryz.laysNm220 blk off cap zs w hH hsz hcap
open Go.RowKit Go.Lib Go.Sort in
theorem Tryz.slices_Compact_int_empty (a:Option Addr)(cap:Nat)(w:World) :
  Calls Tryz.prog 276 #[.slice a 0 cap] w fun e w'=>e = .returned (.slice a 0 cap)/\w'=w:=Any.slices_Compact_int_empty Tryz.laysNm220 a cap w
open Go.RowKit Go.Sort in
theorem Tryz.slices_Sort_int_none (p:Option Addr)(cap:Nat)(w:World) :
  Calls Tryz.prog 275 #[.slice p 0 cap] w fun e w'=>e = .returned (.tuple #[])/\w'=w:=Any.slices_Sort_int_none Tryz.lays189 p cap w
end Go.Proofs
set_option maxHeartbeats 2000000
namespace Go.Pv
attribute [local irreducible] PWP POps PQuiet PSem aF aw ai ak
open Go.Proofs Go.RowKit Go.Sort
theorem Sim.cutS {C:Ctx}{γ:Nat->Option Nat}{s:St}{a:Act}{w:World}(h:Sim C γ s a w){k g n:Nat}{c:Cont}(ho:s.own k=(g,some c))(hz:0<c.sz):Sim C γ (s.setOwn k (g+1) (some ⟨c.ty,c.sz,c.rows.take n,c.kind⟩)) a w:=by
 have hown:∀k' c'',((s.setOwn k (g+1) (some ⟨c.ty,c.sz,c.rows.take n,c.kind⟩)).own k').2=some c''->∃c3,(s.own k').2=some c3:=by
  intro k' c'' hc;by_cases hk:k'=k
  .subst hk;exact⟨c,by rw[ho]⟩
  .rw[aN hk]at hc;exact⟨c'',hc⟩
 have hok:∀b',jY C γ s w b'->jY C γ (s.setOwn k (g+1) (some ⟨c.ty,c.sz,c.rows.take n,c.kind⟩)) w b':=by
  rintro b' ⟨f1,f2,f3⟩;exact⟨f1,f2,fun k' c'' hc=>let ⟨c3,hc3⟩:=hown k' c'' hc;f3 k' c3 hc3⟩
 have hle:(aD C γ s w).Le (aD C γ (s.setOwn k (g+1) (some ⟨c.ty,c.sz,c.rows.take n,c.kind⟩)) w):=by
  refine⟨hok,fun b' hb'=>⟨hb'.1,hok b' hb'.2⟩,fun b' hb'=>hb'.2,fun b' _=>rfl,fun k'=>?_,fun k' l' hg hl=>?_,fun k' l' b' cur'' _ hl hb' hh'=>⟨cur'',hh',O⟩⟩
  .show(s.own k').1<=((s.setOwn k (g+1) _).own k').1;by_cases hk:k'=k
   .subst hk;rw[ar,ho];exact Nat.le_succ _
   .rw[aN hk];exact a_
  .by_cases hk:k'=k
   .subst hk;have:((s.setOwn k' (g+1) (some ⟨c.ty,c.sz,c.rows.take n,c.kind⟩)).own k').1=(s.own k').1:=hg;rw[ar,ho]at this;simp at this
   .simp only[aD,aN hk]at hl;exact⟨l',hl,O,O,O,a_⟩
 refine⟨h.defers,h.size,fun r=>(h.regs r).mono hle,fun k' c'' hc=>?_,fun k1 k2 c1 c2 b' e1 e2 e3 e4=>?_,fun k' c'' b' e1 e2=>?_,h.below,h.top,fun c v hk=>(h.kept c v hk).mono hle⟩
 .by_cases hk:k'=k
  .subst hk;rw[ar]at hc;simp at hc;subst hc;have hs:=h.sites k' c (by rw[ho]);refine⟨fun hb=>by simp[hs.emp hb],(fun b' _ hz'=>by simp only at hz';omega),(fun b' _ hz'=>by simp only at hz';omega),fun b' hb' _=>?_⟩;obtain⟨cur,h1,h2,h3,h4,h5⟩:=hs.at_ b' hb' hz;refine⟨cur,h1,h2,?_,fun row hr=>h4 row (d9 hr),fun i j row pv e1 e2=>?_⟩
   .simp only[bw];exact bL (cu _ (Az _ _)) h3
   .simp only[cz]at e1;split at e1
    .obtain⟨v,f1,f2,f3⟩:=h5 i j row pv e1 e2;exact⟨v,f1,f2,f3.mono hle⟩
    .cases e1
  .rw[aN hk]at hc;exact(h.sites k' c'' hc).mono hle fun b' hb'=>rfl
 .obtain⟨d1,f1⟩:=hown k1 c1 e1;obtain⟨d2,f2⟩:=hown k2 c2 e2;exact h.inj k1 k2 d1 d2 b' f1 f2 e3 e4
 .obtain⟨d1,f1⟩:=hown k' c'' e1;exact h.base k' d1 b' f1 e2
theorem Ghost.cut {s:St}{k g t n sz kd:Nat}{T:TypeId}{rows:List (List PV)}(ho:s.own k=(g,some ⟨T,sz,rows,kd⟩))(hr:s.reg t = .als k g 0 n)(hn:n<=rows.length)(hz:Nat.blt 0 sz=true) :
  Ghost s ((s.setOwn k (g+1) (some ⟨T,sz,rows.take n,kd⟩)).putR t (.als k (g+1) 0 n)):=by
 intro C a w hX ⟨γ,h⟩;have hz:0<sz:=by simpa using hz
 have h':=h.cutS (n:=n) ho hz;have hals:=h.als_at (by rw[<-hr];exact h.regs t) ho;refine⟨γ,h'.defers,h'.size,fun r=>?_,h'.sites,h'.inj,h'.base,h'.below,h'.top,h'.kept⟩;show Rep (aD C γ (s.setOwn k (g+1) (some ⟨T,sz,rows.take n,kd⟩)) w) (bif Nat.beq r t then _ else _) _;by_cases hrt:r=t
 .subst hrt;rw[k9,cond_true];refine .als (by simp[aD,ar]) fun _ l hl=>?_;simp only[aD,ar,c9,bg]at hl;subst hl;rcases hals with⟨h1,h2,h3,h4⟩|⟨b,cap,cur,h1,h2,h3,h4,h5,h6,h7⟩
  .exact .inl ⟨h1,h2,h3,h4⟩
  .exact .inr ⟨b,cap,cur,h1,h2,h3,h4,h5,h6,by simp;omega⟩
 .rw[cD hrt,cond_false];exact h'.regs r
def fV (l:List Int):List Int:=l.mergeSort fun x y=>decide (x<=y)
def AU (l:List Int):List Int:=Lib.compact l++List.replicate (l.length-(Lib.compact l).length) 0
theorem BW (x:Int):(eN x).all jy=true:=rfl
theorem we {w:World}{b:Nat}{T:TypeId}{cur:Array Value}{l:List Int}(hh:w.heap[b]? = some (.cells cur T (0,0)))(hc:cur.toList.take (l.length*1)=nf eN l):Holds (Value.int .i64) w b 0 l.toArray:=fun j hj=>by
 have hj':j<l.length:=by simpa using hj
 have hx:l[j]? = some l[j]:=bU hj';have h1:=GL hc (qW (sz:=1) (fun _=>rfl) l j 0 l[j] (I l[j]) hx O);rw[uN,jL]at h1;refine⟨?_,frozen_of_row w b _ cur T hh⟩;rw[bQ hh,aX,<-gR,h1];simp[hj',Pc]
theorem yw (l:List Int):nf eN l=l.map (Value.int .i64):=by
 induction l with
 |nil=>rfl
 |cons x l ih=>rw[nf,j7,iD,<-ih];rfl
theorem MK:jQ Tryz.prog 275:=⟨_,Go.Proofs.Tryz.func275,Y,O⟩
theorem ML:jQ Tryz.prog 276:=⟨_,Go.Proofs.Tryz.func276,Y,O⟩
section
variable {C:Ctx}{s:St}{d k g m kd:Nat}{ty:TypeId}{pos:String}{af:Array Edge}{x:Operand}{tys:Array TypeId}{K:St->Prop}
theorem LM (l:List Int)(hl:l.length<=1000000)(hx:s.ev x = .als k g 0 m)(hm:m=l.length)(ho:s.own k=(g,some ⟨3,1,l.map eN,kd⟩))
  (h:K ((s.setOwn k g (some ⟨3,1,(fV l).map eN,kd⟩)).putR d (.tup []))):Sm Tryz.prog lay.get s ⟨some d,.call ⟨.value (.func 275),#[x],tys⟩,ty,pos,af,none⟩ K:=by
 refine xr (enc:=eN) (l:=l) (sz:=1) (more:=[]) (mv:=[]) none (fun l'=>l'=fV l) BW (fun _=>rfl) Y O hx hm ho O MK (fun n h=>by cases h) (fun hl0=>?_) (fun w b cap cur hh h1 h2 hc hg=>?_) (fun l' hQ _=>?_)
 .subst hl0;refine⟨by simp[fV],fun w _=>(Tryz.slices_Sort_int_none none 0 w).mono ?_⟩;rintro e w' ⟨rfl,rfl⟩;exact⟨O,Below.refl _ _⟩
 .have hb:b<w.heap.size:=(iu hh).1;refine(Tryz.slices_Sort_int b 0 cap l w (we hh hc) hb J).mono ?_;rintro e w' ⟨rfl,n,os,hw⟩;have hlen:(fV l).length=l.length:=by simp[fV]
  have hchg:=Fw (T:=3) hh hw;refine⟨fV l,_,O,hlen,O,hchg,pw _ _ _ _,?_⟩;have:=pz (Value.int .i64) (fV l).toArray cur (by simp[hlen];omega);rw[oF,hlen]at this;rw[uN,yw];exact this
 .subst hQ;exact h
theorem j3 (l:List Int):(Lib.compact l).length<=l.length:=by
 rw[Lib.compact,Lib.compactUpTo,aR];exact bL (List.length_filter_le _ _) ao
theorem rI (l:List Int):(AU l).length=l.length:=by
 have:=j3 l;simp[AU];omega
theorem BI (l:List Int)(hl:l.length<=1000000)(hx:s.ev x = .als k g 0 m)(hm:m=l.length)(ho:s.own k=(g,some ⟨3,1,l.map eN,kd⟩))
  (h:K ((s.setOwn k g (some ⟨3,1,(AU l).map eN,kd⟩)).putR d (.als k g 0 (Lib.compact l).length))):Sm Tryz.prog lay.get s ⟨some d,.call ⟨.value (.func 276),#[x],tys⟩,ty,pos,af,none⟩ K:=by
 refine xr (enc:=eN) (l:=l) (sz:=1) (more:=[]) (mv:=[]) (some (Lib.compact l).length) (fun l'=>l'=AU l) BW (fun _=>rfl) Y O hx hm ho O ML (fun n h=>by cases h;exact j3 l) (fun hl0=>?_) (fun w b cap cur hh h1 h2 hc hg=>?_) (fun l' hQ _=>?_)
 .subst hl0;refine⟨O,fun w _=>(Tryz.slices_Compact_int_empty none 0 w).mono ?_⟩;rintro e w' ⟨rfl,rfl⟩;exact⟨O,Below.refl _ _⟩
 .refine(Tryz.slices_Compact_int b 0 cap l w (we hh hc) J h1).mono ?_;rintro e w' ⟨rfl,q,hw⟩;have hchg:=Fw (T:=3) hh (hw.trans (Go.Sort.grow_empty _).symm);refine⟨AU l,_,O,rI l,O,hchg,pw _ _ _ _,?_⟩;have:=pz (Value.int .i64) (AU l).toArray cur (by simp[rI];omega);rw[oF,rI]at this;rw[uN,yw];exact this
 .subst hQ;exact h
end
open Go.Proofs
def cZ (l:List SR):List Int:=Lib.compact (fV (l.map (·.x)))
theorem wS (l:List SR)(hl:ma l)(h12:l.length<=1000):aO 248 [.sl (l.map eS)] (.sl ((cZ l).map eN)):=by
 have hml:(l.map eS).length=l.length:=ao;have hrows:∀(k:Nat) x,l[k]? = some x->((l.take (k+1)).map (·.x)).map eN=((l.take k).map (·.x)).map eN++[eN x.x]:=fun k x hx=>by rw[bS hx,bc,bc];rfl
 refine ax Proofs.Tryz.func248 ?_
 ((repeat (first|refine bH ?_ | refine dT ?_ | refine dF ?_ | refine dy ?_));refine bZ ?_)
 refine lZ O trivial ?_
 ((repeat (first|refine bH ?_ | refine dT ?_ | refine dF ?_ | refine dy ?_));refine bZ ?_)
 (first|refine ay (kG 3 1 0 O O ?_)|refine ay (kF 3 1 0 O O ?_))
 refine H ?_;refine ah (fun k=>k<=l.length) (fun k=>[(3,.als 3 (k+1) 0 (((l.take k).map (·.x)).map eN).length),(6,.sl (l.map eS)),(7,I l.length),(8,I k)]) (fun k=>[(3,k+1,⟨3,1,((l.take k).map (·.x)).map eN,0⟩)]) (fun k=>l.length-k) 0 (aP _) ⟨O,O,by rw[<-hml];rfl,O,O,trivial⟩ ?_;intro k s hk;refine D ?_ ?_<;>intro h
 .have hlt:k<l.length:=by have:=aB h;omega
  clear h;obtain⟨x,hx⟩:=aC hlt;have hw:=fg k;refine aQ hx ?_;refine H ?_;refine ay (aY 0 O O O O O O O O O O O aH O ?_);refine H ?_;refine ay (bJ 0 O O O O O O O O O O O aH (by intro row hr;first|(simp at hr;subst hr;rfl)|simp at hr) O O aV aV ?_);refine H ?_;refine⟨k+1,hlt,J,?_,O,O,congrArg I hw,?_,trivial⟩
  .rw[hrows k x hx];rfl
  .rw[hrows k x hx];rfl
 .have hge:k=l.length:=by have:=aE h;omega
  subst hge;clear h;rw[bb];have hal:(l.map (·.x)).length<=1000000:=by simp;omega
  generalize hX:l.map (·.x)=X at *
  have hsl:(fV X).length<=1000000:=by rw[fV,List.length_mergeSort];exact hal
  (refine cN 7 ?_;refine aU 1 ?_)
  refine iH O ?_;refine bH ?_;refine bC O (LM X hal O ao O ?_);refine aW ?_
  (refine cN 8 ?_;refine aU 1 ?_)
  refine iH O ?_;refine bH ?_;refine bC O (BI (fV X) hsl O (by simp[fV]) O ?_);refine aW ?_;refine lZ O trivial ?_;refine bH ?_;refine dF ?_;refine am (Ghost.cut (k:=3) (t:=2) (rows:=(AU (fV X)).map eN) O O (by rw[aR,rI];exact j3 _) O) ?_;have hc:((AU (fV X)).map eN).take (Lib.compact (fV X)).length=(cZ l).map eN:=by
   rw[<-kZ,AU,uI,cZ,hX]
  have hcl:(Lib.compact (fV X)).length=(cZ l).length:=by rw[cZ,hX]
  rw[hc];refine H ?_;exact lB O O O ⟨O,O,by show _=(List.map eN (cZ l)).length;rw[aR,hcl]⟩ O
theorem Ev {l:List SR}{x:Int}(h:x∈cZ l):∃s∈l,s.x=x:=by
 have h1:x∈fV (l.map (·.x)):=by
  rw[cZ,Lib.compact,Lib.compactUpTo]at h;obtain⟨i,hi,rfl⟩:=bX.1 h;have hi:=(AD.1 hi).1;have hi:i<(fV (l.map (·.x))).length:=by simpa using hi
  have e:(fV (l.map (·.x))).toArray[i]! = (fV (l.map (·.x)))[i]:=by simp[hi]
  rw[e];exact List.getElem_mem hi
 rw[fV,List.mem_mergeSort]at h1;obtain⟨s,hs,rfl⟩:=bX.1 h1;exact⟨s,hs,O⟩
theorem li {l:List SR}(hc:dV l=0){x:Int}(h:x∈cZ l) : -1000000<=x/\x<=1000000:=by
 obtain⟨s,hs,rfl⟩:=Ev h;rw[dV]at hc;split at hc
 .omega
 .have:=pO hc s hs;rw[rU]at this;split at this
  .omega
  .rename_i h1;omega
theorem mP (l:List SR):(cZ l).length<=l.length:=by
 have:=j3 (fV (l.map (·.x)));rw[cZ];simp[fV]at this ⊢;exact this
def yc (x:Int):AR:=⟨ofQ ((-x:Int):Rat),ofQ ((1:Int):Rat)⟩
def FC (x:Int):AR:=⟨ofQ (x:Rat),ofQ ((-1:Int):Rat)⟩
def f_ (l:List SR):List AR:=(cZ l).map yc++(cZ l).map FC
theorem Dr (l:List SR)(hl:ma l)(h12:l.length<=1000)(hck:dV l=0):aO 201 [.sl (l.map eS)] (.sl ((f_ l).map eA)):=by
 have hp:=wS l hl h12;have hrg:∀x∈cZ l,-1000000<=x/\x<=1000000:=fun x hx=>li hck hx;have hpl:=mP l;have w1:=cC 1 ⟨Y,Y⟩;have w2:=cC (-1) ⟨Y,Y⟩;rw[f_];generalize cZ l=Pl at *
 have hml:(Pl.map eN).length=Pl.length:=ao;have hrows:∀(k:Nat) x,Pl[k]? = some x->((Pl.take (k+1)).map yc).map eA=((Pl.take k).map yc).map eA++[eA (yc x)]:=fun k x hx=>by rw[bS hx,bc,bc];rfl
 have hrows2:∀(k:Nat) x,Pl[k]? = some x->(Pl.map yc++(Pl.take (k+1)).map FC).map eA=(Pl.map yc++(Pl.take k).map FC).map eA++[eA (FC x)]:=fun k x hx=>by rw[bS hx];simp[bc]
 refine ax Proofs.Tryz.func201 ?_
 ((repeat (first|refine bH ?_ | refine dT ?_ | refine dF ?_ | refine dy ?_));refine bZ ?_)
 refine lZ O trivial ?_
 ((repeat (first|refine bH ?_ | refine dT ?_ | refine dF ?_ | refine dy ?_));refine bZ ?_)
 (first|refine ay (kG 71 8 1 O O ?_)|refine ay (kF 71 8 1 O O ?_))
 refine G hp ?_;refine H ?_;refine ah (fun k=>k<=Pl.length) (fun k=>[(0,.sl (l.map eS)),(3,.als 3 (k+1) 0 (((Pl.take k).map yc).map eA).length),(9,.sl (Pl.map eN)),(10,I Pl.length),(11,I k)]) (fun k=>[(3,k+1,⟨71,8,((Pl.take k).map yc).map eA,1⟩)]) (fun k=>Pl.length-k) 0 (aP _) ⟨O,O,O,by rw[<-hml];rfl,O,O,trivial⟩ ?_;intro k s hk;refine D ?_ ?_<;>intro h
 .have hlt:k<Pl.length:=by have:=aB h;omega
  clear h;obtain⟨x,hx⟩:=aC hlt;have hr:=hrg x (bm hx);have hnx:=cC (-x) ⟨J,J⟩;have hw:=fg k;have hn:IntKind.i64.wrap (0-x) = -x:=by rw[wrap_i64 J J];omega
  refine aQ hx ?_;refine H ?_;rw[hn];refine sT O O O hnx O O ?_;refine G w1 ?_;refine H ?_;refine ay (aY 1 O O O O O O O O O O O aH O ?_);refine H ?_;refine ay (bJ 1 O O O O O O O O O O O aH (by intro row hr;first|(simp at hr;subst hr;rfl)|simp at hr) O O aV aV ?_);refine H ?_;refine⟨k+1,hlt,J,O,?_,O,O,congrArg I hw,?_,trivial⟩
  .rw[hrows k x hx];rfl
  .rw[hrows k x hx];rfl
 .have hge:k=Pl.length:=by have:=aE h;omega
  subst hge;clear h;rw[bb];refine G hp ?_;refine H ?_;refine ah (fun k=>k<=Pl.length) (fun k=>[(3,.als 3 (Pl.length+k+1) 0 ((Pl.map yc++(Pl.take k).map FC).map eA).length),(25,.sl (Pl.map eN)),(26,I Pl.length),(27,I k)]) (fun k=>[(3,Pl.length+k+1,⟨71,8,(Pl.map yc++(Pl.take k).map FC).map eA,1⟩)]) (fun k=>Pl.length-k) 0 (aP _) ⟨by rw[eu,gY,b8];rfl,O,by rw[<-hml];rfl,O,by rw[eu,gY,b8];rfl,trivial⟩ ?_;intro k s hk;refine D ?_ ?_<;>intro h
  .have hlt:k<Pl.length:=by have:=aB h;omega
   clear h;obtain⟨x,hx⟩:=aC hlt;have hr:=hrg x (bm hx);have hnx:=cC x ⟨J,J⟩;have hw:=fg k;refine aQ hx ?_;refine G hnx ?_;refine G w2 ?_;refine H ?_;refine ay (aY 1 O O O O O O O O O O O aH O ?_);refine H ?_;refine ay (bJ 1 O O O O O O O O O O O aH (by intro row hr;first|(simp at hr;subst hr;rfl)|simp at hr) O O aV aV ?_);refine H ?_;refine⟨k+1,hlt,J,?_,O,O,congrArg I hw,?_,trivial⟩
   .rw[hrows2 k x hx];rfl
   .rw[hrows2 k x hx];rfl
  .have hge:k=Pl.length:=by have:=aE h;omega
   subst hge;clear h;rw[bb];refine H ?_;exact lB O O O aH O
def iK:AR:=⟨ofQ ((1:Int):Rat),ofQ ((0:Int):Rat)⟩
noncomputable def qj (b:BR)(r:AR):Bool:=sV b r.z.val r.t.val
noncomputable def nR (b:BR):PV:=if qj b iK=true then .tup [.agg (eA iK),I 12] else match (f_ b.l).find? (qj b) with
 |some r => .tup [.agg (eA r),I 13]
 |none => .tup [.agg (zN++zN),I 0]
theorem vI {z:Int}(h:i64 z):Vq (ofQ (z:Rat)) ((ofQ (z:Rat)).val) 4:=by
 have hz:Zb z:=aJ h.1 h.2;have:=Vq.ofQ (h:=HQ.int (z:=z));rw[ofQ_val];exact this
theorem GO {l:List SR}(hck:dV l=0){r:AR}(h:r∈f_ l):Va r r.z.val r.t.val 4 4:=by
 rw[f_,i5]at h;rcases h with h|h
 .obtain⟨x,hx,rfl⟩:=bX.1 h;have:=li hck hx;exact⟨vI ⟨J,J⟩,vI ⟨Y,Y⟩⟩
 .obtain⟨x,hx,rfl⟩:=bX.1 h;have:=li hck hx;exact⟨vI ⟨J,J⟩,vI ⟨Y,Y⟩⟩
theorem FE:Va iK iK.z.val iK.t.val 4 4:=⟨vI ⟨Y,Y⟩,vI ⟨Y,Y⟩⟩
theorem Hq {α:Type}(p:α->Bool){l:List α}{i:Nat}{x:α}(h:l[i]? = some x):(l.drop i).find? p=if p x=true then some x else(l.drop (i+1)).find? p:=by
 obtain⟨hl,rfl⟩:=bV h;rw[iZ hl,List.find?_cons];cases p l[i]<;>simp
theorem tN (b:BR)(hb:b.Ok):aO 141 [.agg (eB b)] (nR b):=by
 have w1:=cC 1 ⟨Y,Y⟩;have w0:=cC 0 ⟨Y,Y⟩;have hd:=tO b hb iK FE Y Y;have ht:=Dr b.l hb.lim.l (by have:=hb.few.1;omega) hb.chkL;have hva:∀r∈f_ b.l,aO 200 [.agg (eB b),.agg (eA r)] (.bool (qj b r)):=fun r hr=>tO b hb r (GO hb.chkL hr) Y Y;rw[show sV b iK.z.val iK.t.val=qj b iK from O]at hd;have htl:(f_ b.l).length<=1000:=by
  have:=mP b.l;have:=hb.few.1;rw[f_];simp;omega
 generalize hR:nR b=R;rw[nR]at hR;generalize f_ b.l=T at *
 have hml:(T.map eA).length=T.length:=ao;generalize hfn:qj b=fn at *
 clear hfn;obtain⟨w,ba,l⟩:=b;simp only at *
 rw[iK]at *
 by_cases h1:fn ⟨ofQ ((1:Int):Rat),ofQ ((0:Int):Rat)⟩=true
 .rw[if_pos h1]at hR;rw[h1]at hd;subst hR;refine ax Proofs.Tryz.func141 ?_;refine G w1 ?_;refine G w0 ?_;refine aj hd ?_;exact bW
 .rw[if_neg h1]at hR;rw[j9]at h1;rw[h1]at hd;refine ax Proofs.Tryz.func141 ?_;refine G w1 ?_;refine G w0 ?_;refine aj hd ?_;refine G ht ?_;refine H ?_;refine ah (fun i=>i<=T.length/\(T.drop i).find? fn=T.find? fn) (fun i=>[(1,.ptr 1 1 0 0),(2,.ptr 2 1 0 0),(16,.sl (T.map eA)),(17,I T.length),(18,I (i:Nat))]) (fun i=>[(1,1,⟨158,6,[eB ⟨w,ba,l⟩],2⟩),(2,1,⟨71,8,[zN++zN],2⟩)]) (fun i=>T.length-i) 0 ⟨aP _,by rw[ep]⟩ ⟨O,O,O,by rw[<-hml];rfl,O,O,O,trivial⟩ ?_;intro i s ⟨hi,hF⟩;refine D ?_ ?_<;>intro h
  .have hlt:i<T.length:=by have:=aB h;omega
   clear h;obtain⟨r,hr⟩:=aC hlt;have hrr:=hva r (bm hr);have hw:=fg i;rw[Hq fn hr]at hF;cases hfr:fn r with
   |true =>
    rw[hfr]at hrr;rw[if_pos hfr]at hF;rw[<-hF]at hR;simp only at hR;subst hR;refine aQ hr ?_;refine aj hrr ?_;exact bW
   |false =>
    rw[hfr]at hrr;rw[if_neg (by rw[hfr];decide)]at hF;refine aQ hr ?_;refine aj hrr ?_;refine H ?_;exact⟨i+1,⟨J,hF⟩,J,O,O,O,O,congrArg I hw,O,O,trivial⟩
  .have hie:i=T.length:=by have:=aE h;omega
   clear h;rw[hie,fH,List.find?_nil]at hF;rw[<-hF]at hR;simp only at hR;subst hR;exact bW
def tZ {α:Type}(d:α->Rat)(l:List α)(x:α):Nat->Nat
 |0=>0
 |k+1=>match l[k]? with
  |some y=>if d x<d y then tZ d l x k else k+1
  |none=>tZ d l x k
def CL {α:Type}(d:α->Rat)(l:List α)(x:α):Nat:=tZ d l x l.length
def dh {α:Type}(l:List α)(x:α)(k:Nat):List α:=l.take k++x::l.drop k
def pT {α:Type}(d:α->Rat)(l:List α)(x:α):List α:=dh l x (CL d l x)
def dc {α:Type}(d:α->Rat)(l:List α):List α:=l.foldl (pT d) []
theorem Gw {α:Type}{d:α->Rat}{l:List α}{x:α}{j:Nat}(h2:j=0\/∃y,l[j-1]? = some y/\d y<=d x):∀k,j<=k->k<=l.length->(∀q y,j<=q->q<k->l[q]? = some y->d x<d y)->tZ d l x k=j
 |0,hk,_,_=>by rw[tZ];omega
 |k+1,hk,hl,h1=>by
  obtain⟨y,hy⟩:∃y,l[k]? = some y:=⟨l[k],bU J⟩;rw[tZ,hy];dsimp only;by_cases he:j=k+1
  .subst he;rcases h2 with h2|⟨z,hz,hd⟩
   .omega
   .rw[jt,hy]at hz;cases hz;rw[if_neg bM]
  .rw[if_pos (h1 k y J J hy)];exact Gw h2 k J J fun q z hq hq2=>h1 q z hq J
theorem uV {α:Type}{d:α->Rat}{l:List α}{x:α}{j:Nat}(hj:j<=l.length)(h1:∀q y,j<=q->l[q]? = some y->d x<d y)(h2:j=0\/∃y,l[j-1]? = some y/\d y<=d x):CL d l x=j :=
 Gw h2 _ hj (a_) fun q y hq _=>h1 q y hq
theorem HD {α:Type}(d:α->Rat)(l:List α)(x:α):(pT d l x).Perm (x::l):=by
 rw[pT,dh];exact AA.trans (by rw[dR])
theorem mX {α:Type}(d:α->Rat)(l:List α)(x:α):dc d (l++[x])=pT d (dc d l) x:=by
 rw[dc,j8];rfl
theorem kO {α:Type}(d:α->Rat)(l:List α):(dc d l).Perm l:=by
 have:∀(l acc:List α),(l.foldl (pT d) acc).Perm (acc++l):=by
  intro l
  induction l with
  |nil=>intro acc;simp
  |cons x l ih =>
   intro acc;rw[gX];refine(ih _).trans (((HD d acc x).append_right l).trans ?_);rw[uC];exact AA.symm
 exact this l []
theorem gM {α:Type}(d:α->Rat)(l:List α):(dc d l).length=l.length:=(kO d l).length_eq
theorem wu {α:Type}{l:List α}{x:α}{k:Nat}(hk:k<=l.length):(dh l x k)[k]? = some x:=by
 rw[dh,eM aV];simp[jE hk]
theorem ra {α:Type}{l:List α}{x:α}{k q:Nat}(hk:k<=l.length)(h:q<k):(dh l x k)[q]? = l[q]? := by
 rw[dh,gd aV,cz,if_pos h]
theorem wv {α:Type}{l:List α}{x y:α}{k:Nat}(hk:k+1<=l.length)(hy:l[k]? = some y):((dh l x (k+1)).set (k+1) y).set k x=dh l x k:=by
 obtain⟨hlt,rfl⟩:=bV hy;apply i4;intro q;have hl1:(dh l x (k+1)).length=l.length+1:=by simp[dh];omega
 simp only[As,jH,hl1];by_cases h1:k=q
 .subst h1;rw[if_pos O,if_pos J,wu J]
 .rw[if_neg h1];by_cases h2:k+1=q
  .subst h2;rw[if_pos O,if_pos J,dh,eM aV];simp only[bw,jE (show k<=l.length by omega),Nat.add_sub_cancel_left,uo,dx,jL];exact(bU hlt).symm
  .rw[if_neg h2];rcases bG q k with h|h
   .rw[ra J h,ra hk J]
   .rw[dh,dh,eM aV,eM aV];simp only[bw,jE hk,jE (show k<=l.length by omega)];obtain⟨r,rfl⟩:∃r,q=k+2+r:=⟨q-(k+2),J⟩;rw[show k+2+r-(k+1)=r+1 by omega,show k+2+r-k=r+1+1 by omega,uo,uo,dx,dx];congr 1;omega
theorem sO {α:Type}(d:α->Rat)(l:List α)(x:α):∀k,k<=l.length->(tZ d l x k=0\/∃y,l[tZ d l x k-1]? = some y/\d y<=d x)/\∀q y,tZ d l x k<=q->q<k->l[q]? = some y->d x<d y
 |0,_=>⟨.inl rfl,fun q y _ hq=>by omega⟩
 |k+1,hk=>by
  obtain⟨y,hy⟩:∃y,l[k]? = some y:=⟨l[k],bU J⟩;obtain⟨h1,h2⟩:=sO d l x k J;rw[tZ,hy];dsimp only;split
  .rename_i hlt;refine⟨h1,fun q z hq hqk hz=>?_⟩;by_cases he:q=k
   .subst he;rw[hy]at hz;cases hz;exact hlt
   .exact h2 q z hq J hz
  .rename_i hlt;exact⟨.inr ⟨y,by rw[jt];exact hy,bM⟩,fun q z hq hqk=>by omega⟩
theorem Ce {α:Type}{d:α->Rat}{l:List α}(x:α)(h:l.Pairwise fun a b=>d a<=d b):(pT d l x).Pairwise fun a b=>d a<=d b:=by
 obtain⟨h1,h2⟩:=sO d l x l.length (a_);rw[pT,dh,CL];generalize tZ d l x l.length=k at *
 have hbefore:∀a∈l.take k,d a<=d x:=by
  intro a ha;rcases h1 with h1|⟨y,hy,hyx⟩
  .subst h1;simp at ha
  .obtain⟨i,hi,rfl⟩:=mz ha;have hi':i<k:=by simp at hi;omega
   have hil:i<l.length:=by simp at hi;omega
   obtain⟨hk1,hk2⟩:=bV hy;rw[List.getElem_take];by_cases he:i=k-1
   .subst he;rw[hk2];exact hyx
   .have:=z7.1 h i (k-1) hil hk1 J;rw[hk2]at this;grind
 have hbehind:∀a∈l.drop k,d x<=d a:=by
  intro a ha;obtain⟨i,hi,rfl⟩:=mz ha;have hil:k+i<l.length:=by simp at hi;omega
  have:=h2 (k+i) l[k+i] J hil (bU hil);rw[List.getElem_drop];grind
 refine mj.2 ⟨h.sublist (uB _ _),oE.2 ⟨hbehind,h.sublist (At _ _)⟩,fun a ha b hb=>?_⟩;rcases cG.1 hb with rfl|hb
 .exact hbefore a ha
 .have:=hbefore a ha;have:=hbehind b hb;grind
theorem kn {α:Type}(d:α->Rat)(l:List α):(dc d l).Pairwise fun a b=>d a<=d b:=by
 have:∀(l acc:List α),acc.Pairwise (fun a b=>d a<=d b)->(l.foldl (pT d) acc).Pairwise fun a b=>d a<=d b:=by
  intro l
  induction l with
  |nil=>intro acc h;exact h
  |cons x l ih=>intro acc h;exact ih _ (Ce x h)
 exact this l [] .nil
end Go.Pv
