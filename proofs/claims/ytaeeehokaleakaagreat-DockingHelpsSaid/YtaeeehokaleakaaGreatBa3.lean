/- Texts of one hand, gathered: FbJ, FbK, FbL, FbM, FbN, FbO, FbP, FbQ, FrA, FrB, FrC, FrD, FrE, FrF, FrG, FrH, FaE, FmA, FmB, FcA, PvRg, FcB, FcC, FmC, FmD, FmE, FmF, FmG, FmH, FmI, FcD, FcE, FcF, FcG, FcH, FcI, FcJ, FcK, FcL, FcM, FcN, FcO, FcP, LeC, Shelf, FcQ, FcR, FcS, FcT, FcU, FcV, FdV. -/
import Derived.Test.YtaeeehokaleakaaGreatBa2
import Derived.Sort.Grow
import Derived.Shelf.GgSortFunc.RowK
import Derived.Shelf.Small.Bits
import Derived.Shelf.Small.Wraps
import Derived.Shelf.Strconv.Itoa0
import Derived.Shelf.Sort.Plain
import Derived.Ground.Names2Prog
import Derived.Shelf.Slices.Clone
import Derived.Shelf.Slices.CompactI
import Derived.Shelf.Slices.SearchI
import Derived.Shelf.Slices.Cells
import Derived.Shelf.Slices.In.SortNone
import Derived.Test.YtaeeehokaleakaaGreatProg
import Derived.Lib.SlicesCompact
set_option maxRecDepth 20000
set_option linter.unusedSectionVars false
set_option linter.unusedSimpArgs false
set_option linter.unusedVariables false
set_option linter.unnecessarySimpa false
set_option maxHeartbeats 2000000
namespace Go.Pv
attribute [local irreducible] PWP POps PQuiet PSem aE aw aj ak
open Go.Proofs
theorem QW {x y:Nat}(hx:x<65536)(hy:y<65536):bits .or .u32 (x:Int) ((y*65536:Nat):Int)=((x+65536*y:Nat):Int):=by
 rw[bits_join_low .u32 32 Y wraps_u32 16 _ _ J J J J J J];omega
def MY (a b:List UInt16):PV := .tup [.sl ((aJ (nv a/nv b)).map eU),.sl ((aJ (nv a%nv b)).map eU)]
theorem Hj (a b:List UInt16)(ha:a.length<=100000000)(hb:b.length<=100000000)(hta:Trm a)(htb:Trm b)(hlt:nv a<nv b):aU 215 [.sl (a.map eU),.sl (b.map eU)] (MY a b):=by
 have hc:=kW a b J J;have hneg:=(ko hta htb).1.2 hlt;rw[MY,ra hlt,eE hlt,cW,kB hta];generalize oU a b=c at *
 refine aD Proofs.Tryz.func215 ?_;refine ax hc ?_;refine D ?_ ?_<;>intro h
 .clear h;refine H ?_;refine Tg O O O (vf a J) O O ?_
  (repeat ((fail_if_success (with_reducible refine fh ?_));refine wV O ?_))
  refine ao (Ghost.nilsl (t:=4) O) ?_;refine H ?_;exact DT O O O O O trivial trivial O
 .have:=bS h;omega
theorem DR (a:List UInt16)(b:UInt16)(ha:a.length<=100000000)(hta:Trm a)(htb:Trm [b])(hge:nv [b]<=nv a):aU 215 [.sl (a.map eU),.sl [eU b]] (MY a [b]):=by
 have hc:=kW a [b] J ap;have hneg:¬oU a [b]<0:=fun h=>by have:=(ko hta htb).1.1 h;omega
 have hb0:0<b.toNat:=by have:=htb b O;omega
 have hs:=It a b ha hb0;have hnb:nv [b]=b.toNat:=by simp[nv]
 rw[MY,hnb];have hml:=ep (nv a) hb0;have hbl:=cq b;have hx:=eY [UInt16.ofNat (nv a%b.toNat)] ap;have hxv:bN [UInt16.ofNat (nv a%b.toNat)]=aJ (nv a%b.toNat):=by
  rw[bN];congr 1;simp[nv];omega
 rw[hxv]at hx;have hxe:([UInt16.ofNat (nv a%b.toNat)].map eU)=[[PV.int .u16 ((nv a%b.toNat:Nat):Int)]]:=by
  show [[PV.int .u16 _]]=_;rw[bY,eE J]
 rw[hxe]at hx;generalize oU a [b]=c,nv a%b.toNat=m at *
 refine aD Proofs.Tryz.func215 ?_;refine ax hc ?_;refine D ?_ ?_<;>intro h
 .have:=bk h;omega
 clear h;refine H ?_;refine ci O O (KN O O O O O Y O O) ?_;refine G hs ?_;refine H ?_;refine ci O O (fE O O O O O O O O O O ah O) ?_;refine G hx ?_;refine H ?_;exact DT O O O O O trivial trivial O
set_option maxRecDepth 40000 in
set_option maxHeartbeats 4000000 in
theorem Bz (a b:List UInt16){n:Nat}(ha:a.length<=100000000)(hb:b.length=n+2)(hta:Trm a)(htb:Trm b)(hge:nv b<=nv a):aU 215 [.sl (a.map eU),.sl (b.map eU)] (MY a b):=by
 have hba:b.length<=a.length:=by
  rcases bG a.length b.length with h|h
  .exfalso;have h1:=E_ htb (k:=n+1) hb;have h2:=dV a;have h3:65536^a.length<=65536^(n+1):=fV J;omega
  .exact h
 have hc:=kW a b J J;have hneg:¬oU a b<0:=fun h=>by have:=(ko hta htb).1.1 h;omega
 have hbml:(b.map eU).length=n+2:=by rw[aF,hb]
 have hbt:=rK (R:=b) (i:=n+1) J;have ht0:ul b (n+1)≠0:=htb _ (by rw[qT,hb,show n+2-1=n+1 by omega];exact hbt);have hlead:=Kd (b.getD (n+1) 0) ht0;have hl16:=BZ ht0 (cq _);rw[show(b.getD (n+1) 0).toNat=ul b (n+1) from O]at hlead;have hb0:0<nv b:=by
  have h1:=E_ htb (k:=n+1) hb;have:=p9 (n+1);omega
 have hbtl:=gH b (n+1);have hbtop:nv b=uw b 0 (n+1)+65536^(n+1)*ul b (n+1):=by
  have h1:=gO (R:=b) (j:=0) (m:=n+1) J;rw[xf hb (aY),aM]at h1;exact h1
 generalize hlt:pg (ul b (n+1))=t at *
 obtain⟨s,hs⟩:∃s,s=16-t:=⟨_,O⟩;rw[<-hs]at hlead;have hs15:s<=15:=J;have hgs:32768<=ul b (n+1)*2^s/\ul b (n+1)*2^s<65536:=by
  have e1:2^t*2^s=65536:=by rw[<-i4,show t+s=16 by omega]
  have h1:=cE (2^s) hl16.2.2.1;have h2:=(ox (iZ (show 0<2 by decide):0<2^s)).2 hl16.2.2.2;rw[e1]at h1 h2;rw[cY]at h1;omega
 have hsO:=AT a s ha J;have hsF:=CY b s J J;obtain⟨V,hVd⟩:∃V,V=(nC (b.length+1) (nv b*2^s)).take (n+2):=⟨_,O⟩;have hp:0<2^s:=iZ Y;have hblt:nv b*2^s<65536^(n+2):=by
  have h1:=yW b 0 (n+1);have h2:nv b<65536^(n+1)*(ul b (n+1)+1):=by rw[hbtop,cy];omega
  have h3:=(ox hp).2 h2;have h4:(ul b (n+1)+1)*2^s<=65536:=by
   have e1:2^t*2^s=65536:=by rw[<-i4,show t+s=16 by omega]
   rw[<-e1];exact cE _ hl16.2.2.2
  have h5:=dE (65536^(n+1)) h4;rw[<-cY]at h5;rw[db];omega
 have hVl:V.length=n+2:=by rw[hVd,bc,nD,hb];omega
 have hVv:nv V=nv b*2^s:=by
  have h1:=fD (nC (b.length+1) (nv b*2^s)) (n+2) (by rw[nD];omega);have h2:nv (nC (b.length+1) (nv b*2^s))=nv b*2^s:=zj _ _ (gU hblt (fV J));have h3:nv ((nC (b.length+1) (nv b*2^s)).drop (n+2))=0:=Av (by rw[h2];exact hblt);rw[h2,h3,<-hVd]at h1;omega
 have hVtop:32768<=ul V (n+1):=by
  have h1:=gO (R:=V) (j:=0) (m:=n+1) J;rw[xf hVl (aY),aM]at h1;have h2:=yW V 0 (n+1);have h3:65536^(n+1)*32768<=nv V:=by
   rw[hVv,hbtop,cg,cY];have:=dE (65536^(n+1)) hgs.1;omega
  rcases bG (ul V (n+1)) 32768 with h|h
  .exfalso;have:=dE (65536^(n+1)) (show ul V (n+1)+1<=32768 by omega);rw[cy]at this;omega
  .exact h
 have hV32:32768*65536^(b.length-1)<=nv V:=by
  rw[hVv,hbtop,hb,show n+2-1=n+1 by omega,cg,cY];have:=dE (65536^(n+1)) hgs.1;rw[dg (65536^(n+1)) 32768]at this;omega
 have hV0:0<nv V:=by rw[hVv];exact mt hb0 hp
 have hRl:=nD (a.length+1) (nv a*2^s);have hRv:nv (nC (a.length+1) (nv a*2^s))=nv a*2^s:=zj _ _ (by
  have h1:=(ox hp).2 (dV a);have h2:2^s<=2^16:=gu (n:=2) Y (show s<=16 by omega);rw[show 2^16=65536 by decide]at h2;have:=dE (65536^a.length) h2
  rw[db];omega)
 have hstart:=fun Q hQ=>Hi (V:=V) (a:=a) (b:=b) (Q:=Q) (hVl.trans hb.symm) hVv hba hs15 hV32 J hRl hRv hQ (.inr trivial);generalize nC (a.length+1) (nv a*2^s)=R0 at *
 rw[MY];generalize oU a b=c at *
 have c1:IntKind.i64.wrap (((n+2:Nat):Int)-1)=((n+1:Nat):Int):=by rw[wrap_i64 J J];omega
 have c2:IntKind.i64.wrap (((R0.map eU).length:Nat)-((n+2:Nat):Int))=((a.length+1-(n+2):Nat):Int):=by rw[aF,hRl,wrap_i64 J J];omega
 have c3:IntKind.i64.wrap (((a.length+1-(n+2):Nat):Int)-1)=((a.length+1-(n+2):Nat):Int)-1:=by rw[wrap_i64 J J]
 have hbi:(b.map eU)[((n+1:Nat):Int).toNat]?=some [PV.int .u16 ((ul b (n+1):Nat):Int)]:=vo J;refine aD Proofs.Tryz.func215 ?_;refine ax hc ?_;refine D ?_ ?_<;>intro h
 .have:=bk h;omega
 clear h;refine H ?_;rw[hbml];refine H ?_;rw[hbml,c1];refine ci O O (KN O O O O O J hbi O) ?_;refine ax hlead ?_;refine H ?_;refine bL [44] [2] aH ?_;refine H ?_;refine jQ O O O (Nj O hsO O ah O ⟨fU O,?_⟩);refine RS hsF ?_;refine H ?_;rw[hbml];refine ci O O (RQ 0 (n+2) O O O O (.inl ⟨O,O⟩) (.inr ⟨_,_,O,O⟩) J (by rw[nD];omega) (fun _=>rfl)) ?_;rw[fO,<-hVd];have hVml:(V.map eU).length=n+2:=by rw[aF,hVl]
 refine H ?_;rw[hVml];refine H ?_;rw[c2];refine aC (mK O O O O O O O O J (by show(2:Int)*_<=_;omega) J ?_);rw[be,qc];refine H ?_;rw[c2];refine H ?_;rw[c3];rw[hb]at hstart hba;have hst0:=hstart (List.replicate (a.length+1-(n+2)) 0) ap;clear hstart;refine ai (DivI V (a.length+1) (n+2) (nv a*2^s)) (fun z=>[(4,.als 57 1 0 (z.2.2.map eU).length),(8,I s),(9,.als 44 1 0 (z.2.1.map eU).length),(10,.fsl (V.map eU)),(11,I ((n+2:Nat):Int)),(12,I ((z.1:Int)-1))])
  (fun z=>ON 1 1 z.2.1 z.2.2) (fun z=>z.1) (a.length+1-(n+2),R0,List.replicate (a.length+1-(n+2)) 0) hst0 ah ?_
 rintro⟨k,R,Q⟩ s1 hI;have hk:=hI.k;have hRl2:=hI.r;have hQl:=hI.q;simp only at hk hRl2 hQl;dsimp only;refine D ?_ ?_<;>intro h
 .have hk0:0<k:=cw h;clear h;obtain⟨j,rfl⟩:∃j,k=j+1:=⟨k-1,J⟩;have e1:(((j+1:Nat):Int)-1)=(j:Nat):=J;rw[e1];obtain⟨w1,w2,w3⟩:=Ft hVl J hI;have hRml:(R.map eU).length=a.length+1:=by rw[aF,hRl2]
  have e2:IntKind.i64.wrap (IntKind.i64.wrap ((j:Int)+((n+2:Nat):Int))+1)=((j+(n+3):Nat):Int):=by
   rw[wrap_i64 (n:=(j:Int)+((n+2:Nat):Int)) J J,wrap_i64 J J];omega
  obtain⟨r,hr⟩:=r8 (R:=Q) (i:=j) J
  (refine cV 13 ?_;refine aR 10 ?_)
  refine H ?_;rw[e2];refine ci O O (RP j (j+(n+3)) O O O O O O (.inr ⟨_,_,O,O⟩) (.inr ⟨_,_,O,O⟩) J (by rw[hRml];omega)) ?_;rw[aM j,show j+(n+3)-j=n+3 by omega];refine H ?_;refine br O (Jt (n:=n) (j:=j) (R:=R) (V:=V) (Qr:=Q) hVl J J hVtop w2 O O ⟨O,O,bh⟩ fun s3 R' hd=>?_);obtain⟨hq16,hnx⟩:=Ju hVl J hV0 hI hd;refine aT ?_;refine H ?_;refine ci O O (cF O O O O O O O J (by rw[aF];omega)) ?_;rw[be,aM j];rw[show PV.int .u16 ((uw R j (n+3)/nv V:Nat):Int)=PV.int .u16 ((UInt16.ofNat (uw R j (n+3)/nv V)).toNat:Int) by rw[bY,eE hq16]];refine eF (cP (kd':=0) O O O hr O O ah O O O O ?_);refine H ?_;refine⟨(j,R',Q.set j (UInt16.ofNat (uw R j (n+3)/nv V))),hnx,by simp only;omega,?_,O,?_,O,O,?_,O,?_,bh⟩
  .show PV.als 57 1 0 (Q.map eU).length=_;simp
  .show PV.als 44 1 0 (R.map eU).length=_;rw[aF,aF,hd.l]
  .exact congrArg I (wrap_i64 J J)
  .exact ib 1 218 1 0 j Q (UInt16.ofNat (uw R j (n+3)/nv V))
 .have hk0:k=0:=co h;subst hk0;clear h;obtain⟨hQv,hRv2⟩:=MW hVv hb0 hI;refine H ?_;refine aC (mK O O O O O O O O J (by show(2:Int)*_<=_;omega) J ?_);generalize (s1.own 80).1=g8;rw[be,qc];refine H ?_;refine ai (RemI R (n+2) s) (fun q=>[(4,.als 57 1 0 (Q.map eU).length),(5,.als 80 (g8+1) 0 (q.2.map eU).length),(8,I s),(9,.als 44 1 0 (R.map eU).length),(81,I ((n+2:Nat):Int)),(82,I q.1)])
   (fun q=>[(44,1,⟨218,1,R.map eU,0⟩),(57,1,⟨218,1,Q.map eU,0⟩),(80,g8+1,⟨218,1,q.2.map eU,0⟩)]) (fun q=>n+2-q.1) (0,List.replicate (n+2) 0) ⟨aP _,ap,by simp[nv];omega⟩ ah ?_
  rintro⟨i,P⟩ s3 hJ;have hi:=hJ.i;have hPl:=hJ.l;simp only at hi hPl;dsimp only;refine D ?_ ?_<;>intro h
  .have hi2:i<n+2:=cw h;clear h;have hst:=KW hJ hs15 J hi2;have h1:=qE (R:=R) (i:=i) J;have h2:=qE (R:=R) (i:=i+1) J;have b1:=gH R i;have b2:=gH R (i+1);have hsh:=Pb (x:=ul R (i+1)) b2;have hor:=QW b1 b2;obtain⟨r,hr⟩:=r8 (R:=P) (i:=i) J;have ei:IntKind.i64.wrap ((i:Int)+1)=((i+1:Nat):Int):=by rw[wrap_i64 J J];omega
   refine cX 19 [85,86,87,88,89,90,91,92,93,94,95,96,97,98,99,100,101,102,103] ?_;refine H ?_;refine ci O O (cF O O O O O O O J (by rw[aF];omega)) ?_;rw[be,aM i];refine ci O O (du O O O h1 O) ?_;refine H ?_;rw[uP R i];refine H ?_;rw[ei];refine ci O O (cF O O O O O O O J (by rw[aF];omega)) ?_;rw[be,aM (i+1)];refine ci O O (du O O O h2 O) ?_;refine H ?_;rw[uP R (i+1)];refine H ?_;rw[hsh];refine H ?_;rw[hor];refine H ?_;refine ci O O (QOp.v O (show(0:Int)<=(s:Int)/\(s:Int)<=(IntKind.u32.bits:Nat) by constructor;omega;show(s:Int)<=32;omega)) ?_;rw[show((ul R i+65536*ul R (i+1):Nat):Int)/2^((s:Nat):Int).toNat=(((ul R i+65536*ul R (i+1))/2^s:Nat):Int) by rw[be,Int.natCast_ediv,Int.natCast_pow];rfl];refine H ?_;rw[wrap_u16];refine ci O O (cF O O O O O O O J (by rw[aF];omega)) ?_;rw[be,aM i];refine H ?_;refine eF (cP (kd':=0) O O O hr O O ah O O O O ?_);refine H ?_;refine⟨(i+1,_),hst,by simp only;omega,O,?_,O,O,O,c9 J J,O,O,?_,bh⟩
   .show PV.als 80 (g8+1) 0 (P.map eU).length=_;simp
   .exact ib (g8+1) 218 1 0 i P (UInt16.ofNat ((ul R i+65536*ul R (i+1))/2^s))
  .have hi2:i=n+2:=co h;subst hi2;clear h;have hPv:nv P=nv a%nv b:=by
    have h1:=hJ.v;simp only at h1;rw[cT J,hRv2,Nat.mul_div_cancel _ hp]at h1;rw[h1];refine eE (Nat.lt_trans (ep _ hb0) ?_);rw[<-hb];exact dV b
   have ht1:=eY Q J;rw[bN,hQv]at ht1;have ht2:=eY P J;rw[bN,hPv]at ht2
   (refine cV 20 ?_;refine aR 1 ?_)
   refine H ?_;refine br O (gF (Ghost.takeF (enc:=eU) (t:=105) (Q) O O (O) O (fun _=>rfl)) ?_)
   (refine oX (gC O (ht1) O ?_ O) ?_;.repeat' constructor)
   refine br O (gF (Ghost.refl _) (RL O trivial ?_));refine br O (gF (Ghost.takeF (enc:=eU) (t:=107) (P) O O (O) O (fun _=>rfl)) ?_)
   (refine oX (gC O (ht2) O ?_ O) ?_;.repeat' constructor)
   refine aT ?_;refine H ?_;exact DT O O O O O trivial trivial O
theorem pD (a b:List UInt16)(ha:a.length<=100000000)(hb:b.length<=100000000)(hta:Trm a)(htb:Trm b)(hb0:nv b≠0):aU 215 [.sl (a.map eU),.sl (b.map eU)] (MY a b):=by
 rcases bG (nv a) (nv b) with h|h
 .exact Hj a b ha hb hta htb h
 .match b,hb,htb,hb0,h with
  |[],_,_,hb0,_=>exact absurd rfl hb0
  |[x],_,htb,_,h=>exact DR a x ha hta htb h
  |x::y::l,hb,htb,_,h=>exact Bz a (x::y::l) (n:=l.length) ha rfl hta htb h
theorem HE:aJ 1=[1]:=by rw[gN Y,show 1/65536=0 by decide,cW];rfl
theorem ig {n m:Nat}(h:n<=m):(aJ n).length<=(aJ m).length:=by
 refine ec ?_;have:=dV (aJ m);rw[bi]at this;omega
theorem fS (l:List UInt16):(aJ (nv l)).length<=l.length:=ec (dV l)
theorem DK (a b:List UInt16)(ha:a.length<=100000000)(hb:b.length<=100000000)(hta:Trm a)(htb:Trm b):aU 214 [.sl (a.map eU),.sl (b.map eU)] (.sl ((aJ (Nat.gcd (nv a) (nv b))).map eU)):=by
 generalize hg:Nat.gcd (nv a) (nv b)=g;refine aD Proofs.Tryz.func214 ?_;refine H ?_;refine ai (fun q:List UInt16 × List UInt16=>q.1.length<=100000000/\q.2.length<=100000000/\Trm q.1/\Trm q.2/\Nat.gcd (nv q.1) (nv q.2)=g) (fun q=>[(0,.sl (q.1.map eU)),(1,.sl (q.2.map eU))]) (fun _=>[]) (fun q=>nv q.2) (a,b) ⟨ha,hb,hta,htb,hg⟩ ah ?_;rintro⟨A,B⟩ s ⟨hA,hB,htA,htB,hG⟩;simp only at hA hB htA htB hG;dsimp only;have hBm:(B.map eU).length=B.length:=ap;refine D ?_ ?_<;>intro h
 .have hB0:0<B.length:=cw h;clear h;have hB0v:nv B≠0:=by
   match B,hB0,htB with
   |x::l,_,h=>exact uO h
  have hw1:=Dq A J;have hw2:=Dq B J;have main:(A.length<=4/\B.length<=4)\/¬(A.length<=4/\B.length<=4):=dL _;have hd:=pD A B hA hB htA htB hB0v;rw[MY]at hd;have hml:=ep (nv A) (mB hB0v);have hnext:(aJ (nv A%nv B)).length<=100000000:=by
   have h1:=ig (mr hml);have h2:=fS B;omega
  have hG2:Nat.gcd (nv B) (nv (aJ (nv A%nv B)))=g:=by rw[bi,iY,<-rh,iY];exact hG
  by_cases h1:A.length<=4
  .rw[if_pos h1]at hw1;have hAl:nv A<18446744073709551616:=by
    have:=dV A;have h3:65536^A.length<=65536^4:=fV h1;have:(65536:Nat)^4=18446744073709551616:=Y;omega
   by_cases h2:B.length<=4
   .rw[if_pos h2]at hw2;have hBl:nv B<18446744073709551616:=by
     have:=dV B;have h3:65536^B.length<=65536^4:=fV h2;have:(65536:Nat)^4=18446744073709551616:=Y;omega
    clear main hd;generalize nv A=av,nv B=bv at *
    refine ax hw1 ?_;refine ax hw2 ?_;refine H ?_;refine ai (fun q:Nat × Nat=>q.1<18446744073709551616/\q.2<18446744073709551616/\Nat.gcd q.1 q.2=g) (fun q=>[(5,.int .u64 (q.1:Nat)),(7,.int .u64 (q.2:Nat))]) (fun _=>[]) (fun q=>q.2) (av,bv) ⟨hAl,hBl,hG⟩ ah ?_;rintro⟨x,y⟩ s2 ⟨hx,hy,hg2⟩;simp only at hx hy hg2;dsimp only;refine D ?_ ?_<;>intro h
    .have hy0:0<y:=cw h;clear h;have hm:=ep x hy0;refine H ?_;refine bL [] [] aH ?_;refine H ?_;refine ci O O (QOp.v O (show ¬((y:Nat):Int)=0 by omega)) ?_;rw[n7];refine H ?_;exact⟨(y,x%y),⟨hy,by simp only;omega,by simp only;rw[iY,<-rh,iY];exact hg2⟩,hm,ah⟩
    .have hy0:y=0:=co h;subst hy0;clear h;rw[q8]at hg2;subst hg2;refine G (tk x hx) ?_;refine H ?_;exact lC O O O trivial O
   .rw[if_neg h2]at hw2;refine ax hw1 ?_;refine ax hw2 ?_;refine G hd ?_;refine H ?_;exact⟨(B,aJ (nv A%nv B)),⟨hB,hnext,htB,cU _,hG2⟩,by simp only;rw[bi];exact hml,ah⟩
  .rw[if_neg h1]at hw1;by_cases h2:B.length<=4
   .rw[if_pos h2]at hw2;refine ax hw1 ?_;refine ax hw2 ?_;refine G hd ?_;refine H ?_;exact⟨(B,aJ (nv A%nv B)),⟨hB,hnext,htB,cU _,hG2⟩,by simp only;rw[bi];exact hml,ah⟩
   .rw[if_neg h2]at hw2;refine ax hw1 ?_;refine ax hw2 ?_;refine G hd ?_;refine H ?_;exact⟨(B,aJ (nv A%nv B)),⟨hB,hnext,htB,cU _,hG2⟩,by simp only;rw[bi];exact hml,ah⟩
 .have hB0:B.length=0:=co h;clear h;have hB0v:=ov.1 hB0;subst hB0v;rw[nv,q8]at hG;rw[<-hG,kB htA];refine H ?_;exact lC O O O trivial O
theorem Cf (a b:RI)(hb:nv b.l≠0):ofQ ((a.val:Rat)/(b.val:Rat))=⟨di (iP (a.neg != b.neg) (nv a.l/Nat.gcd (nv a.l) (nv b.l))),di (iP false (nv b.l/Nat.gcd (nv a.l) (nv b.l)))⟩:=by
 have hbv:b.val≠0:=by intro h;have:=b.val_abs;rw[h]at this;exact hb this.symm
 rw[Nn _ _ hbv,a.val_abs,b.val_abs,uC,uC];have hg:0<Nat.gcd (nv a.l) (nv b.l):=zI _ (mB hb);have hbg:nv b.l/Nat.gcd (nv a.l) (nv b.l)≠0:=by
  have:=Nat.div_pos (Nat.le_of_dvd (mB hb) (Nat.gcd_dvd_right (nv a.l) (nv b.l))) hg;omega
 rw[if_neg hbg];congr 1;by_cases ha:nv a.l=0
 .rw[ha,Nat.zero_div,if_pos O,cW];congr 1;have hav:a.val=0:=by rw[RI.val,ha];simp
  rw[hav];simp
 .have hag:nv a.l/Nat.gcd (nv a.l) (nv b.l)≠0:=by
   have:=Nat.div_pos (Nat.le_of_dvd (mB ha) (Nat.gcd_dvd_left (nv a.l) (nv b.l))) hg;omega
  rw[if_neg hag];congr 1;have e1:a.val<0↔a.neg=true:=by rw[RI.val];split<;>simp_all<;>omega
  have e2:0<a.val↔a.neg=false:=by rw[RI.val];split<;>simp_all<;>omega
  have e3:b.val<0↔b.neg=true:=by rw[RI.val];split<;>simp_all<;>omega
  have e4:0<b.val↔b.neg=false:=by rw[RI.val];split<;>simp_all<;>omega
  simp only[e1,e2,e3,e4];cases a.neg<;>cases b.neg<;>rfl
theorem fL (a b:RI)(ha:a.l.length<=90000000)(hb:b.l.length<=90000000)(hb0:nv b.l≠0):aU 148 [.agg (eI a),.agg (eI b)] (.agg (eR (ofQ ((a.val:Rat)/(b.val:Rat))))):=by
 rw[Cf a b hb0];obtain⟨an,al⟩:=a;obtain⟨bn,bl⟩:=b;simp only at ha hb hb0;dsimp only;have hta:=eY al J;have htb:=eY bl J;have hla:=fS al;have hlb:=fS bl;have hc:=DK (aJ (nv al)) (aJ (nv bl)) J J (cU _) (cU _);rw[bi,bi]at hc;have hg0:0<Nat.gcd (nv al) (nv bl):=zI _ (mB hb0);have hgl:Nat.gcd (nv al) (nv bl)<=nv bl:=Nat.gcd_le_right _ (mB hb0);generalize Nat.gcd (nv al) (nv bl)=g at *
 rw[bN]at hta htb;have hgs:(aJ g).length<=90000000:=by have:=ig hgl;omega
 have hda:=pD (aJ (nv al)) (aJ g) J J (cU _) (cU _) (by rw[bi];omega);have hdb:=pD (aJ (nv bl)) (aJ g) J J (cU _) (cU _) (by rw[bi];omega);rw[MY,bi,bi]at hda hdb;have hsa:=iF (an != bn) (aJ (nv al/g)) (by have:=ig (jr (nv al) g);omega);have hsb:=iF false (aJ (nv bl/g)) (by have:=ig (jr (nv bl) g);omega);rw[bi]at hsa hsb;have hm:((aJ g).map eU).length=(aJ g).length:=ap;by_cases hg1:g=1
 .subst hg1;rw[Nat.div_one]at hsa hsb;rw[Nat.div_one,Nat.div_one];rw[HE]at hc;generalize aJ (nv al)=A,aJ (nv bl)=B,di (iP (an != bn) (nv al))=X,di (iP false (nv bl))=Y0 at *
  refine aD Proofs.Tryz.func148 ?_;refine cX 8 [8,9,10,11,12,13,5,6] ?_;refine G hta ?_;refine G htb ?_;refine G hc ?_;refine H ?_;refine ci O O (lK O O O O O J (show([1]:List UInt16)[0]?=some 1 from O) O) ?_;refine G hsa ?_;refine G hsb ?_;exact cA
 .have hne:aJ g≠[1]:=by
   intro h;have:=bi g;rw[h]at this;exact hg1 (by rw[<-this];rfl)
  generalize aJ (nv al)=A,aJ (nv bl)=B,di (iP (an != bn) (nv al/g))=X,di (iP false (nv bl/g))=Y0,aJ g=G0,aJ (nv al/g)=A2,aJ (nv bl/g)=B2 at *
  refine aD Proofs.Tryz.func148 ?_;refine cX 8 [8,9,10,11,12,13,5,6] ?_;refine G hta ?_;refine G htb ?_;refine G hc ?_;refine H ?_;by_cases hl:G0.length=1
  .obtain⟨x,rfl⟩:=zL.1 hl;have hx:x.toNat≠1:=fun h=>hne (by have h2:x=1:=w_ h;rw[h2]);refine H ?_;refine ci O O (lK O O O O O J (show [x][0]?=some x from O) O) ?_;refine D ?_ ?_<;>intro h
   .clear h;refine G hda ?_;refine G hdb ?_;refine G hsa ?_;refine G hsb ?_;exact cA
   .exfalso;simp at h;omega
  .refine LF O O O ?_ ?_<;>intro h
   .refine G hda ?_;refine G hdb ?_;refine G hsa ?_;refine G hsb ?_;exact cA
   .exfalso;simp at h;omega
def rS (z:Int):Int:=if z=0 then 0 else if z<0 then -1 else 1
theorem RI.val_zero (a:RI):a.val=0↔nv a.l=0:=by rw[RI.val];split<;>omega
theorem sU {l:List UInt16}:(bN l).length=0↔nv l=0:=by
 constructor
 .intro h;have h1:=fF l;rw[ov.1 h]at h1;exact h1.symm
 .intro h;rw[bN,h,cW];rfl
theorem rE (a:RI)(ha:a.l.length<=300000000):aU 212 [.agg (eI a)] (I (rS a.val)):=by
 have ht:=eY a.l J;have hm:((bN a.l).map eU).length=(bN a.l).length:=ap;have h0:=sU (l:=a.l);have hz:=a.val_zero;have hv:a.val=if a.neg then -(nv a.l:Int) else(nv a.l:Int):=O
 generalize bN a.l=T at *
 obtain⟨an,al⟩:=a;simp only at *
 refine aD Proofs.Tryz.func212 ?_;refine G ht ?_;refine D ?_ ?_<;>intro h
 .have h1:nv al=0:=h0.1 (by have:=bk h;omega);rw[rS,if_pos (hz.2 h1)];exact cB
 .have h1:nv al≠0:=by
   intro h1;have h2:=bS h;have:=h0.2 h1;omega
  rw[rS,if_neg (fun h=>h1 (hz.1 h))];clear h;cases an
  .rw[if_neg (by rw[hv];simp only[eu,if_false];omega)];exact cB
  .rw[if_pos (by rw[hv];simp only[if_true];omega)];exact cB
def dn (x:RR):RI:=if nv x.d.l=0 then⟨false,[1]⟩ else x.d
theorem PM (x:RR):(dn x).val=x.d.den:=by
 rw[dn,RI.den];split
 .rfl
 .rfl
theorem Fv (x:RR):nv (dn x).l≠0:=by
 rw[dn];split
 .decide
 .assumption
theorem PK {x:RR}{n:Nat}(h:x.d.l.length<=n)(hn:1<=n):(dn x).l.length<=n:=by
 rw[dn];split
 .exact hn
 .exact h
theorem RR.val_dn (x:RR):x.val=(x.n.val:Rat)/((dn x).val:Rat):=by rw[PM];rfl
theorem gL (x:RR)(hx:x.d.l.length<=300000000):aU 147 [.agg (eR x)] (.agg (eI (dn x))):=by
 have hs:=rE x.d hx;rw[dn];by_cases h0:nv x.d.l=0
 .rw[if_pos h0];rw[rS,if_pos (x.d.val_zero.2 h0)]at hs;refine aD Proofs.Tryz.func147 ?_;refine ax hs ?_;refine H ?_;refine aC (bb 0 O O O O O O O O O O O ah O ?_);exact cA
 .rw[if_neg h0];have h1:rS x.d.val≠0:=by rw[rS,if_neg (fun h=>h0 (x.d.val_zero.1 h))];split<;>decide
  generalize rS x.d.val=v at *
  refine aD Proofs.Tryz.func147 ?_;refine ax hs ?_;refine D ?_ ?_<;>intro h
  .exact absurd (bk h) h1
  .exact cA
theorem pQ (x:RR)(hx:x.n.l.length<=300000000):aU 145 [.agg (eR x)] (.bool (decide (x.val=0))):=by
 have hs:=rE x.n hx;have e:decide (x.val=0)=decide (rS x.n.val=0):=by
  have h1:=x.n.val_zero;by_cases h:nv x.n.l=0
  .rw[decide_eq_true (x.zero_iff.2 h),rS,if_pos (h1.2 h)];rfl
  .rw[decide_eq_false (fun h2=>h (x.zero_iff.1 h2)),rS,if_neg (fun h2=>h (h1.1 h2))];split<;>rfl
 rw[e];refine aD Proofs.Tryz.func145 ?_;refine ax hs ?_;exact kU
theorem NJ (a b:Int)(hb:b≠0):rS a*rS b=if a=0 then 0 else if (a<0/\0<b)\/(0<a/\b<0) then -1 else 1:=by
 unfold rS;rw[if_neg hb];by_cases h0:a=0
 .rw[if_pos h0,if_pos h0];omega
 .rw[if_neg h0,if_neg h0];split<;>split<;>split<;>omega
theorem GE (x:RR):sgn x.val=rS x.n.val*rS (dn x).val:=by
 have hd:(dn x).val≠0:=by rw[Ne,RI.val_zero];exact Fv x
 rw[NJ _ _ hd,RR.val_dn];generalize x.n.val=a;generalize (dn x).val=b at *
 have h:=(uG a b hd).2.2;rw[sgn];have hq:(a:Rat)/(b:Rat)=0↔a=0:=by
  have hb:(b:Rat)≠0:=by exact_mod_cast hd
  constructor
  .intro h;have:(a:Rat)=0:=bP
   exact_mod_cast this
  .intro h;subst h;grind
 have hlt:(a:Rat)/(b:Rat)<0↔(a<0/\0<b)\/(0<a/\b<0):=by
  rw[<-h];have h1:=Rat.num_nonneg (q:=(a:Rat)/(b:Rat));grind
 by_cases h0:a=0
 .rw[if_pos h0,if_neg (by rw[hlt];omega),if_pos (hq.2 h0)]
 .rw[if_neg h0];by_cases h1:(a<0/\0<b)\/(0<a/\b<0)
  .rw[if_pos h1,if_pos (hlt.2 h1)]
  .rw[if_neg h1,if_neg (fun h=>h1 (hlt.1 h)),if_neg (fun h=>h0 (hq.1 h))]
theorem tm (z:Int):(di z).l=aJ z.natAbs:=rfl
theorem RI.lt (a:RI):a.val.natAbs<65536^a.l.length:=by rw[RI.val_abs];exact dV _
theorem eQ (a b:RI):(di (a.val*b.val)).l.length<=a.l.length+b.l.length:=by
 rw[tm,js];exact ec (jT a.lt b.lt)
theorem Ch (a b:RI){n:Nat}(ha:a.l.length<=n)(hb:b.l.length<=n):(di (a.val+b.val)).l.length<=n+1:=by
 rw[tm];refine ec ?_;have h1:=a.lt;have h2:=b.lt;have h3:=fV ha;have h4:=fV hb;rw[db];omega
theorem Bf {A B:List UInt16}{n:Nat}(hA:A.length<=n)(hB:B.length<=n):(aJ (nv A+nv B)).length<=n+1:=by
 refine ec ?_;have h1:=dV A;have h2:=dV B;have h3:=fV hA;have h4:=fV hB;rw[db];omega
theorem kD (a b:RI)(ha:a.l.length<=90000000)(hb:b.l.length<=90000000):aU 150 [.agg (eI a),.agg (eI b)] (.agg (eI (di (a.val*b.val)))):=by
 have e:a.val*b.val=iP (a.neg != b.neg) (nv a.l*nv b.l):=by
  rw[a.val_sgz,b.val_sgz];cases a.neg<;>cases b.neg<;>simp[iP,Int.neg_mul,Int.mul_neg]
 have hl:=eQ a b;rw[e]at hl ⊢;have hta:=eY a.l J;have htb:=eY b.l J;have hla:=dy a.l;have hlb:=dy b.l;have ht:=IE (bN a.l) (bN b.l) J J;rw[fF,fF]at ht;have hs:=iF (a.neg != b.neg) (aJ (nv a.l*nv b.l)) (by
  have:=ec (jT (dV a.l) (dV b.l));omega)
 rw[bi]at hs;obtain⟨an,al⟩:=a;obtain⟨bn,bl⟩:=b;simp only at *
 generalize bN al=A,bN bl=B,aJ (nv al*nv bl)=C,di (iP (an != bn) (nv al*nv bl))=X at *
 refine aD Proofs.Tryz.func150 ?_;refine cX 13 [5,6,7,8,9,10,11,12,13,14,15,16,17] ?_;refine G hta ?_;refine G htb ?_;refine G ht ?_;refine G hs ?_;exact cA
theorem I7 (a b:RI)(ha:a.l.length<=90000000)(hb:b.l.length<=90000000):aU 149 [.agg (eI a),.agg (eI b)] (.agg (eI (di (a.val+b.val)))):=by
 have hta:=eY a.l J;have htb:=eY b.l J;have hla:=dy a.l;have hlb:=dy b.l;have hA:=jA a.l;have hB:=jA b.l;have hnA:=fF a.l;have hnB:=fF b.l;rw[a.val_sgz,b.val_sgz];obtain⟨an,al⟩:=a;obtain⟨bn,bl⟩:=b;simp only at *
 rw[<-hnA,<-hnB];generalize bN al=A,bN bl=B at *
 have hp:=KF A B J J;have hcm:=kW A B J J;have hcs:=(ko hA hB).1;have hlA:=fS A;have hlB:=fS B;have hlp:(aJ (nv A+nv B)).length<=300000000:=by
  have:=Bf (n:=100000000) (A:=A) (B:=B) J J;omega
 by_cases hs:an=bn
 .subst hs;have hd:=iF an (aJ (nv A+nv B)) hlp;rw[bi]at hd;have e:iP an (nv A)+iP an (nv B)=iP an (nv A+nv B):=by cases an<;>simp only[iP,eu,if_false,if_true]<;>omega
  rw[e];generalize aJ (nv A+nv B)=C,di (iP an (nv A+nv B))=X at *
  refine aD Proofs.Tryz.func149 ?_;refine cX 8 [7,8,9,10,11,12,5,6] ?_;refine G hta ?_;refine G htb ?_;refine D ?_ ?_<;>intro h
  .clear h;refine cX 6 [18,19,20,21,22,23] ?_;refine G hp ?_;refine G hd ?_;exact cA
  .exfalso;simp at h
 .have hmA:nv B<=nv A->aU 218 [.sl (A.map eU),.sl (B.map eU)] (.sl ((aJ (nv A-nv B)).map eU)):=yi A B J J;have hmB:nv A<=nv B->aU 218 [.sl (B.map eU),.sl (A.map eU)] (.sl ((aJ (nv B-nv A)).map eU)):=yi B A J J;have hlm:(aJ (nv A-nv B)).length<=300000000:=by have:=ig (Nat.sub_le (nv A) (nv B));omega
  have hlm2:(aJ (nv B-nv A)).length<=300000000:=by have:=ig (Nat.sub_le (nv B) (nv A));omega
  have hdA:=iF an (aJ (nv A-nv B)) hlm;have hdB:=iF bn (aJ (nv B-nv A)) hlm2;rw[bi]at hdA hdB;have eA:nv B<=nv A->iP an (nv A)+iP bn (nv B)=iP an (nv A-nv B):=by intro h;cases an<;>cases bn<;>simp_all only [iP,eu,if_false,if_true,not_true_eq_false,reduceCtorEq,not_false_eq_true]<;>omega
  have eB:nv A<=nv B->iP an (nv A)+iP bn (nv B)=iP bn (nv B-nv A):=by intro h;cases an<;>cases bn<;>simp_all only [iP,eu,if_false,if_true,not_true_eq_false,reduceCtorEq,not_false_eq_true]<;>omega
  generalize iP an (nv A)+iP bn (nv B)=Z,aJ (nv A-nv B)=C,aJ (nv B-nv A)=D0 at *
  generalize hX:di (iP an (nv A-nv B))=X at *
  generalize hY:di (iP bn (nv B-nv A))=Y0 at *
  refine aD Proofs.Tryz.func149 ?_;refine cX 8 [7,8,9,10,11,12,5,6] ?_;refine G hta ?_;refine G htb ?_;refine D ?_ ?_<;>intro h
  .exfalso;simp at h;exact hs h
  .clear h;refine ax hcm ?_;refine D ?_ ?_<;>intro h
   .have hge:nv B<=nv A:=by
     have h1:=bk h;omega
    clear h;refine cX 6 [28,29,30,31,32,33] ?_;refine G (hmA hge) ?_;refine G hdA ?_;refine H ?_;exact DU O ah O ah (by rw[eA hge,hX];rfl)
   .have hge:nv A<=nv B:=by
     have h1:=bS h;omega
    clear h;refine cX 6 [34,35,36,37,38,39] ?_;refine G (hmB hge) ?_;refine G hdB ?_;refine H ?_;exact DU O ah O ah (by rw[eB hge,hY];rfl)
theorem j2 {x:RR}{n:Nat}(h:x.d.l.length<=n):(dn x).l.length<=n+1:=PK J J
theorem pE (x:RR):(dn x).val≠0:=by rw[Ne,RI.val_zero];exact Fv x
theorem Ay {z:Int}(h:z≠0):nv (di z).l≠0:=by rw[tm,bi];omega
theorem AA (a:RI):aU 292 [.agg (eI a)] (.agg (eI ⟨!a.neg,a.l⟩)):=by
 obtain⟨an,al⟩:=a;refine aD Proofs.Tryz.func292 ?_;exact cA
theorem vZ (x:RR)(hn:x.n.l.length<=80000000)(hd:x.d.l.length<=80000000):aU 146 [.agg (eR x)] (.agg (eR (ofQ x.val))):=by
 have hb:=gL x J;have hf:=fL x.n (dn x) J (by have:=j2 hd;omega) (Fv x);rw[<-RR.val_dn]at hf;generalize dn x=D0,ofQ x.val=X at *
 refine aD Proofs.Tryz.func146 ?_;refine cX 5 [3,4,5,6,7] ?_;refine G hb ?_;refine G hf ?_;exact cA
theorem Au (x:RR)(hn:x.n.l.length<=80000000)(hd:x.d.l.length<=80000000):aU 240 [.agg (eR x)] (.agg (eR (ofQ (-x.val)))):=by
 have hb:=gL x J;have ho:=AA x.n;have hf:=fL ⟨!x.n.neg,x.n.l⟩ (dn x) (by simp only;omega) (by have:=j2 hd;omega) (Fv x);have e:(RI.mk (!x.n.neg) x.n.l).val = -x.n.val:=by unfold RI.val;cases x.n.neg<;>simp
 rw[e,<-NB,<-RR.val_dn]at hf;generalize dn x=D0,ofQ (-x.val)=X,RI.mk (!x.n.neg) x.n.l=N at *
 refine aD Proofs.Tryz.func240 ?_;refine cX 6 [3,4,5,6,7,8] ?_;refine G ho ?_;refine G hb ?_;refine G hf ?_;exact cA
theorem Be (x y:RR)(hxn:x.n.l.length<=20000000)(hxd:x.d.l.length<=20000000)(hyn:y.n.l.length<=20000000)(hyd:y.d.l.length<=20000000):aU 74 [.agg (eR x),.agg (eR y)] (.agg (eR (ofQ (x.val+y.val)))):=by
 have hzx:=pQ x J;have hzy:=pQ y J;have hlx:=vZ x J J;have hly:=vZ y J J;have hbx:=gL x J;have hby:=gL y J;have hdx:=j2 hxd;have hdy:=j2 hyd;have l1:=eQ x.n (dn y);have l2:=eQ y.n (dn x);have l3:=eQ (dn x) (dn y);have m1:=kD x.n (dn y) J J;have m2:=kD y.n (dn x) J J;have m3:=kD (dn x) (dn y) J J;have l4:=Ch (di (x.n.val*(dn y).val)) (di (y.n.val*(dn x).val)) (n:=45000000) J J;have m4:=I7 (di (x.n.val*(dn y).val)) (di (y.n.val*(dn x).val)) J J;rw[c_,c_]at m4 l4;have m5:=fL (di (x.n.val*(dn y).val+y.n.val*(dn x).val)) (di ((dn x).val*(dn y).val)) J J (Ay (oA (pE x) (pE y)));rw[c_,c_,<-AE _ _ _ _ (pE x) (pE y),<-RR.val_dn,<-RR.val_dn]at m5;have e0:x.val=0->ofQ (x.val+y.val)=ofQ y.val:=fun h=>by rw[h,Rat.zero_add]
 have e1:y.val=0->ofQ (x.val+y.val)=ofQ x.val:=fun h=>by rw[h,jI]
 generalize di (x.n.val*(dn y).val+y.n.val*(dn x).val)=W5,di (x.n.val*(dn y).val)=W1,di (y.n.val*(dn x).val)=W2,di ((dn x).val*(dn y).val)=W3 at *
 generalize dn x=A,dn y=B,ofQ (x.val+y.val)=X,ofQ x.val=X1,ofQ y.val=X2 at *
 generalize x.val=xv,y.val=yv at *
 refine aD Proofs.Tryz.func74 ?_;refine ax hzx ?_;refine D ?_ ?_<;>intro h
 .have e:=e0 (bk h);subst e;clear h;refine G hly ?_;exact cA
 clear h;refine ax hzy ?_;refine D ?_ ?_<;>intro h
 .have e:=e1 (bk h);subst e;clear h;refine G hlx ?_;exact cA
 clear h;refine H ?_;refine a_ [(4,5),(5,6),(6,5),(7,6)] aH aH ?_;refine G hbx ?_;refine G hby ?_;refine cX 13 [19,20,21,22,23,24,25,26,27,28,29,30,31] ?_;refine G m1 ?_;refine G m2 ?_;refine G m4 ?_;refine G m3 ?_;refine G m5 ?_;exact cA
theorem gS {q:Rat}{n:Nat}(h:hq q n):(ofQ q).n.l.length<=n/\(ofQ q).d.l.length<=n:=(o_ h).ok
theorem eJ (x y:RR){p q:Rat}{n m:Nat}[hx:Vq x p n][hy:Vq y q m](hn:n<=20000000)(hm:m<=20000000):aU 74 [.agg (eR x),.agg (eR y)] (.agg (eR (ofQ (p+q)))):=by
 have h1:=hx.sz;have h2:=hy.sz;have:=Be x y J J J J;rwa [hx.val,hy.val]at this
theorem Kw {x:RR}{n:Nat}(h1:x.n.l.length<=n)(h2:x.d.l.length<=n):(ofQ (-x.val)).n.l.length<=n+1/\(ofQ (-x.val)).d.l.length<=n+1 :=
 gS (vN (SZ.hq (x:=x) ⟨h1,h2⟩))
theorem LS (x y:RR)(hxn:x.n.l.length<=10000000)(hxd:x.d.l.length<=10000000)(hyn:y.n.l.length<=10000000)(hyd:y.d.l.length<=10000000):aU 178 [.agg (eR x),.agg (eR y)] (.agg (eR (ofQ (x.val-y.val)))):=by
 have hneg:=Au y J J;have hl:=Kw hyn hyd;have ha:=Be x (ofQ (-y.val)) J J J J;rw[ofQ_val,<-mA]at ha;generalize ofQ (-y.val)=Y0,ofQ (x.val-y.val)=X at *
 refine aD Proofs.Tryz.func178 ?_;refine cX 4 [5,6,7,8] ?_;refine G hneg ?_;refine G ha ?_;exact cA
theorem nk (x y:RR){p q:Rat}{n m:Nat}[hx:Vq x p n][hy:Vq y q m](hn:n<=10000000)(hm:m<=10000000):aU 178 [.agg (eR x),.agg (eR y)] (.agg (eR (ofQ (p-q)))):=by
 have h1:=hx.sz;have h2:=hy.sz;have:=LS x y J J J J;rwa [hx.val,hy.val]at this
theorem Km (x y:RR)(hxn:x.n.l.length<=20000000)(hxd:x.d.l.length<=20000000)(hyn:y.n.l.length<=20000000)(hyd:y.d.l.length<=20000000):aU 78 [.agg (eR x),.agg (eR y)] (.agg (eR (ofQ (x.val*y.val)))):=by
 have hbx:=gL x J;have hby:=gL y J;have hdx:=j2 hxd;have hdy:=j2 hyd;have l1:=eQ x.n y.n;have l3:=eQ (dn x) (dn y);have m1:=kD x.n y.n J J;have m3:=kD (dn x) (dn y) J J;have m5:=fL (di (x.n.val*y.n.val)) (di ((dn x).val*(dn y).val)) J J (Ay (oA (pE x) (pE y)));rw[c_,c_,<-AG,<-RR.val_dn,<-RR.val_dn]at m5;generalize di (x.n.val*y.n.val)=W1,di ((dn x).val*(dn y).val)=W3 at *
 generalize dn x=A,dn y=B,ofQ (x.val*y.val)=X at *
 refine aD Proofs.Tryz.func78 ?_;refine cX 11 [5,6,7,8,9,10,11,12,13,14,15] ?_;refine G m1 ?_;refine G hbx ?_;refine G hby ?_;refine G m3 ?_;refine G m5 ?_;exact cA
theorem iE (x y:RR){p q:Rat}{n m:Nat}[hx:Vq x p n][hy:Vq y q m](hn:n<=20000000)(hm:m<=20000000):aU 78 [.agg (eR x),.agg (eR y)] (.agg (eR (ofQ (p*q)))):=by
 have h1:=hx.sz;have h2:=hy.sz;have:=Km x y J J J J;rwa [hx.val,hy.val]at this
theorem HW (x y:RR)(hxn:x.n.l.length<=20000000)(hxd:x.d.l.length<=20000000)(hyn:y.n.l.length<=20000000)(hyd:y.d.l.length<=20000000)(h0:y.val≠0):aU 291 [.agg (eR x),.agg (eR y)] (.agg (eR (ofQ (x.val/y.val)))):=by
 have hbx:=gL x J;have hby:=gL y J;have hdx:=j2 hxd;have hdy:=j2 hyd;have hy0:y.n.val≠0:=by rw[Ne,RI.val_zero,<-RR.zero_iff];exact h0
 have l1:=eQ x.n (dn y);have l3:=eQ (dn x) y.n;have m1:=kD x.n (dn y) J J;have m3:=kD (dn x) y.n J J;have m5:=fL (di (x.n.val*(dn y).val)) (di ((dn x).val*y.n.val)) J J (Ay (oA (pE x) hy0));rw[c_,c_,<-AF,<-RR.val_dn,<-RR.val_dn]at m5;generalize di (x.n.val*(dn y).val)=W1,di ((dn x).val*y.n.val)=W3 at *
 generalize dn x=A,dn y=B,ofQ (x.val/y.val)=X at *
 refine aD Proofs.Tryz.func291 ?_;refine cX 11 [5,6,7,8,9,10,11,12,13,14,15] ?_;refine G hby ?_;refine G m1 ?_;refine G hbx ?_;refine G m3 ?_;refine G m5 ?_;exact cA
theorem RN (x y:RR){p q:Rat}{n m:Nat}[hx:Vq x p n][hy:Vq y q m](hn:n<=20000000)(hm:m<=20000000)(h0:q≠0):aU 291 [.agg (eR x),.agg (eR y)] (.agg (eR (ofQ (p/q)))):=by
 have h1:=hx.sz;have h2:=hy.sz;have:=HW x y J J J J (by rw[hy.val];exact h0);rwa [hx.val,hy.val]at this
theorem wO (x:RR)(hn:x.n.l.length<=20000000)(hd:x.d.l.length<=20000000):aU 211 [.agg (eR x)] (I (sgn x.val)):=by
 have hb:=gL x J;have h1:=rE x.n J;have h2:=rE (dn x) (by have:=j2 hd;omega);rw[GE];have hw:IntKind.i64.wrap (rS x.n.val*rS (dn x).val)=rS x.n.val*rS (dn x).val:=by
  refine wrap_i64 ?_ ?_<;>(unfold rS;split<;>split<;>(try split)<;>(try split)<;>omega)
 generalize rS x.n.val=s1,rS (dn x).val=s2 at *
 generalize dn x=D0 at *
 refine aD Proofs.Tryz.func211 ?_;refine cX 8 [3,4,5,6,7,8,9,2] ?_;refine ax h1 ?_;refine G hb ?_;refine ax h2 ?_;refine H ?_;rw[hw];exact o9 O O O
theorem Pc (x:RR){p:Rat}{n:Nat}[hx:Vq x p n](hn:n<=20000000):aU 211 [.agg (eR x)] (I (sgn p)):=by
 have h1:=hx.sz;have:=wO x J J;rwa [hx.val]at this
theorem FK (x:RR){p:Rat}{n:Nat}[hx:Vq x p n](hn:n<=20000000):aU 145 [.agg (eR x)] (.bool (decide (p=0))):=by
 have h1:=hx.sz;have:=pQ x J;rwa [hx.val]at this
theorem nf (x y:RR){p q:Rat}{n m:Nat}[hx:Vq x p n][hy:Vq y q m](hn:n<=8000000)(hm:m<=8000000):aU 144 [.agg (eR x),.agg (eR y)] (I (sgn (p-q))):=by
 have h1:=hx.sz;have h2:=hy.sz;have hs:=nk x y J J;have hh:hq (p-q) (n+1+(m+1)+1):=(HQ.sub (h1:=hx.hq) (h2:=hy.hq)).ok;have hl:=gS hh;have hg:=wO (ofQ (p-q)) J J;rw[ofQ_val]at hg;generalize ofQ (p-q)=X,sgn (p-q)=g at *
 refine aD Proofs.Tryz.func144 ?_;refine G hs ?_;refine ax hg ?_;exact cB
theorem CC (x y:RR){p q:Rat}{n m:Nat}[hx:Vq x p n][hy:Vq y q m](hn:n<=20000000)(hm:m<=20000000):aU 239 [.agg (eR x),.agg (eR y)] (if q=0 then .tup [.agg (eR RR.zero),I 9] else .tup [.agg (eR (ofQ (p/q))),I 0]):=by
 have hz:=FK y hm;by_cases h0:q=0
 .rw[if_pos h0];rw[decide_eq_true h0]at hz;refine aD Proofs.Tryz.func239 ?_;refine ax hz ?_
  ((repeat ((fail_if_success (with_reducible refine fh ?_));refine wV O ?_));refine ao (Ghost.nilcell (k:=1007) (k0:=4) (i:=0) (j:=1) 218 1 0 O O O O (row:=[.bool false,.nil,.bool false,.nil]) O O O) ?_;refine ao (Ghost.nilcell (k:=1021) (k0:=4) (i:=0) (j:=3) 218 1 0 O O O O (row:=[.bool false,_,.bool false,.nil]) O O O) ?_)
  exact cA
 .rw[if_neg h0];rw[decide_eq_false h0]at hz;have ho:=RN x y hn hm h0;generalize ofQ (p/q)=X at *
  refine aD Proofs.Tryz.func239 ?_;refine ax hz ?_;refine G ho ?_;exact cA
theorem kG {z:Int}(h:z.natAbs<18446744073709551616):(di z).l.length<=4:=by
 rw[tm];refine ec ?_;have:(65536:Nat)^4=18446744073709551616:=Y;omega
theorem tD (z:Int):IntKind.u64.wrap z=z%18446744073709551616:=by
 have e:(2:Int)^64=18446744073709551616:=Y;simp only[IntKind.wrap,IntKind.bits,IntKind.signed,fg,eu,if_false,e]
theorem Dr {z:Int}(h0 : -9223372036854775808<=z)(h1:z<0):IntKind.u64.wrap (0-(IntKind.u64.wrap z))=((z.natAbs:Nat):Int):=by
 rw[tD,tD];omega
theorem sj (z:Int)(h0 : -9223372036854775808<=z)(h1:z<=9223372036854775807):aU 131 [I z] (.agg (eI (di z))):=by
 have hn:=tk z.natAbs J;have hl:=kG (z:=z) J;rw[tm]at hl;have hs:=iF (decide (z<0)) (aJ z.natAbs) J;rw[bi]at hs;have e:iP (decide (z<0)) z.natAbs=z:=by
  by_cases h:z<0
  .rw[decide_eq_true h,iP,if_pos O];omega
  .rw[decide_eq_false h,iP,if_neg Y];omega
 rw[e]at hs;generalize di z=X at *
 by_cases hz:z<0
 .have hw:=Dr h0 hz;rw[decide_eq_true hz]at hs;generalize aJ z.natAbs=A at *
  refine aD Proofs.Tryz.func131 ?_;refine D ?_ ?_<;>intro h
  .clear h;refine H ?_;rw[hw];refine oJ O O O hn O O ?_;refine G hs ?_;exact cA
  .exact absurd hz (bS h)
 .have hw:IntKind.u64.wrap z=((z.natAbs:Nat):Int):=by
   rw[wrap_u64 J J];omega
  rw[decide_eq_false hz]at hs;generalize aJ z.natAbs=A at *
  refine aD Proofs.Tryz.func131 ?_;refine D ?_ ?_<;>intro h
  .exact absurd (bk h) hz
  .clear h;refine H ?_;rw[hw];refine oJ O O O hn O O ?_;refine G hs ?_;exact cA
theorem oS (a:RI)(ha:a.l.length<=90000000):aU 130 [.agg (eI a)] (.agg (eR (ofQ (a.val:Rat)))):=by
 have hf:=fL a ⟨false,[1]⟩ ha Y Y;rw[show(RI.mk false [1]).val=1 by rfl]at hf;rw[show((a.val:Rat)/((1:Int):Rat))=(a.val:Rat) by grind]at hf;generalize ofQ (a.val:Rat)=X at *
 refine aD Proofs.Tryz.func130 ?_;refine H ?_;refine ci O O (fE O O O O O O O O O O ah O) ?_;refine G hf ?_;exact cA
theorem jt (z:Int)(h0 : -9223372036854775808<=z)(h1:z<=9223372036854775807):aU 306 [I z] (.agg (eR (ofQ (z:Rat)))):=by
 have ho:=sj z h0 h1;have hw:=oS (di z) (by have:=kG (z:=z) J;omega);rw[c_]at hw;generalize ofQ (z:Rat)=X,di z=Z at *
 refine aD Proofs.Tryz.func306 ?_;refine G ho ?_;refine G hw ?_;exact cA
def f9 (l:List UInt16)(i:Nat):Nat:=(l.getD i 0).toNat
theorem iz (l:List UInt16)(i:Nat):f9 l i<65536:=cq _
theorem Jp {l:List UInt16}{i:Nat}(h:l.length<=i):f9 l i=0:=by
 rw[f9,cN,fe h];rfl
theorem yk (l:List UInt16)(i:Nat):nv (l.take (i+1))=nv (l.take i)+65536^i*f9 l i:=by
 rcases bG i l.length with h|h
 .exact gy (eo h)
 .rw[Jp h,cT h,cT J];omega
structure RPlus (A B:List UInt16) (q:Nat × List UInt16 × Nat):Prop where
 l:q.2.1.length=q.1
 c:q.2.2<=1
 k:q.1<=A.length+B.length+1
 v:nv q.2.1+65536^q.1*q.2.2=nv (A.take q.1)+nv (B.take q.1)
theorem ED {A B:List UInt16}{k:Nat}{L:List UInt16}{c:Nat}(h:RPlus A B (k,L,c))(hk:k<A.length\/k<B.length\/0<c) :
  RPlus A B (k+1,L++[UInt16.ofNat (f9 A k+f9 B k+c)],(f9 A k+f9 B k+c)/65536)/\k<A.length+B.length+1:=by
 obtain⟨h1,h2,h3,h4⟩:=h;simp only at h1 h2 h3 h4;have hx:=iz A k;have hy:=iz B k;have hkk:k<A.length+B.length+1:=by
  rcases bG k (A.length+B.length+1) with g|g
  .exact g
  .exfalso;have hc:0<c:=J;have e1:=dV A;have e2:=dV B;rw[cT (l:=A) J,cT (l:=B) J]at h4;have p1:65536^A.length*65536<=65536^k:=by rw[<-db];exact gu Y J
   have p2:65536^B.length*65536<=65536^k:=by rw[<-db];exact gu Y J
   have p3:65536^k*1<=65536^k*c:=dE _ hc;omega
 refine⟨⟨by simp[h1],by simp only;omega,by simp only;omega,?_⟩,hkk⟩;simp only;rw[uB,yk A,yk B,h1,bY,db];have e:(f9 A k+f9 B k+c)%65536+65536*((f9 A k+f9 B k+c)/65536)=f9 A k+f9 B k+c:=jE _ _;generalize (f9 A k+f9 B k+c)%65536=m,(f9 A k+f9 B k+c)/65536=d,65536^k=W at *
 have:W*(m+65536*d)=W*(f9 A k+f9 B k+c):=by rw[e]
 simp only[cy]at this;rw[cY];omega
theorem Ij {A B:List UInt16}{k:Nat}{L:List UInt16}{c:Nat}(h:RPlus A B (k,L,c))(hk:¬(k<A.length\/k<B.length\/0<c)):nv L=nv A+nv B:=by
 obtain⟨h1,h2,h3,h4⟩:=h;simp only at h1 h2 h3 h4;rw[cT (l:=A) J,cT (l:=B) J,show c=0 by omega]at h4;omega
structure RMin (A B:List UInt16) (q:Nat × List UInt16 × Nat):Prop where
 l:q.2.1.length=q.1
 c:q.2.2<=1
 k:q.1<=A.length
 v:nv q.2.1+nv (B.take q.1)=nv (A.take q.1)+65536^q.1*q.2.2
def IY (x y c:Nat):Nat:=if x<y+c then x+65536-y-c else x-y-c
def NI (x y c:Nat):Nat:=if x<y+c then 1 else 0
theorem O_ {x y c:Nat}(hx:x<65536)(hy:y<65536)(hc:c<=1):IY x y c+y+c=x+65536*NI x y c/\IY x y c<65536/\NI x y c<=1:=by
 unfold IY NI;split<;>omega
theorem If {A B:List UInt16}{k:Nat}{L:List UInt16}{c:Nat}(h:RMin A B (k,L,c))(hk:k<A.length) :
  RMin A B (k+1,L++[UInt16.ofNat (IY (f9 A k) (f9 B k) c)],NI (f9 A k) (f9 B k) c):=by
 obtain⟨h1,h2,h3,h4⟩:=h;simp only at h1 h2 h3 h4;obtain⟨e,e2,e3⟩:=O_ (iz A k) (iz B k) h2;refine⟨by simp[h1],e3,hk,?_⟩;simp only;rw[uB,yk A,yk B,h1,bY,eE e2,db];generalize IY (f9 A k) (f9 B k) c=m,NI (f9 A k) (f9 B k) c=d,65536^k=W at *
 have:W*(m+f9 B k+c)=W*(f9 A k+65536*d):=by rw[e]
 simp only[cy]at this;rw[cY];omega
theorem K5 {A B L:List UInt16}{c:Nat}(h:RMin A B (A.length,L,c))(hle:nv B<=nv A):nv L=nv A-nv B:=by
 obtain⟨h1,h2,h3,h4⟩:=h;simp only at h1 h2 h3 h4;rw[bI]at h4;have e1:=dV L;rw[h1]at e1;have e2:=Ef B A.length;have e3:nv (B.take A.length)=nv B/\c=0:=by
  have e4:65536^A.length≠0:=Nat.ne_of_gt (p9 _);have hc:c=0:=by
   rcases gc c with g|g
   .exact g
   .have:c=1:=J;subst this;have:=ju B A.length;omega
  refine⟨?_,hc⟩;subst hc;rcases bG A.length B.length with g|g
  .have e5:=fD B A.length J;have e6:=dV A;rcases gc (nv (B.drop A.length)) with g2|g2
   .rw[g2]at e5;omega
   .have:65536^A.length*1<=65536^A.length*nv (B.drop A.length):=dE _ g2;omega
  .rw[cT g]
 rw[e3.1,e3.2]at h4;omega
structure RTimO (A B:List UInt16) (q:Nat × List UInt16):Prop where
 i:q.1<=A.length
 l:q.2.length=A.length+B.length+1
 v:nv q.2=nv (A.take q.1)*nv B
structure RTimI (A B:List UInt16) (i:Nat) (q:Nat × List UInt16 × Nat):Prop where
 k:q.1<=B.length+1
 l:q.2.1.length=A.length+B.length+1
 c:q.2.2<65536
 v:nv q.2.1+65536^(i+q.1)*q.2.2=nv (A.take i)*nv B+65536^i*(f9 A i*nv (B.take q.1))
theorem EF {A B:List UInt16}{i:Nat}{R:List UInt16}(h:RTimO A B (i,R)):RTimI A B i (0,R,0):=⟨aP _,h.l,Ae _,by
 have:=h.v;simp only at this ⊢
 rw[dK,nv];omega⟩
theorem QE {A B:List UInt16}{i k:Nat}{R:List UInt16}{c:Nat}(h:RTimI A B i (k,R,c))(hk:k<B.length\/0<c):k<=B.length:=by
 rcases hk with hk|hk
 .omega
 .obtain⟨h1,h2,h3,h4⟩:=h;simp only at h1 h2 h3 h4;rcases bG B.length k with g|g
  .exfalso;rw[cT (l:=B) J]at h4;have e1:=ju A i;have e2:=iz A i;have e3:=dV B;have e4:nv (A.take i)*nv B+65536^i*(f9 A i*nv B)=(nv (A.take i)+65536^i*f9 A i)*nv B:=by rw[cg,cY]
   have e5:nv (A.take i)+65536^i*f9 A i<65536^(i+1):=by
    have:65536^i*f9 A i<=65536^i*65535:=dE _ J;rw[db];omega
   have e6:(nv (A.take i)+65536^i*f9 A i)*nv B<65536^(i+1+B.length):=jT e5 e3;have e7:65536^(i+1+B.length)<=65536^(i+k):=gu Y J;have e8:65536^(i+k)*1<=65536^(i+k)*c:=dE _ hk;omega
  .exact g
theorem Is {A B:List UInt16}{i k:Nat}{R:List UInt16}{c:Nat}{r:UInt16}(h:RTimI A B i (k,R,c))(hkB:k<=B.length)(hr:R[i+k]?=some r) :
  RTimI A B i (k+1,R.set (i+k) (UInt16.ofNat (r.toNat+f9 A i*f9 B k+c)),(r.toNat+f9 A i*f9 B k+c)/65536):=by
 obtain⟨h1,h2,h3,h4⟩:=h;simp only at h1 h2 h3 h4;have hx:=iz A i;have hyl:=iz B k;have hrl:=cq r;have hm:=Ca hx hyl;refine⟨by simp only;omega,by simp[h2],by simp only;omega,?_⟩;simp only;have hs:=Kt hr (UInt16.ofNat (r.toNat+f9 A i*f9 B k+c));rw[bY]at hs;rw[yk B,show i+(k+1)=(i+k)+1 by omega,db];have e:=jE (r.toNat+f9 A i*f9 B k+c) 65536;generalize (r.toNat+f9 A i*f9 B k+c)%65536=m,(r.toNat+f9 A i*f9 B k+c)/65536=d at *
 have e2:65536^i*(f9 A i*(nv (B.take k)+65536^k*f9 B k))=65536^i*(f9 A i*nv (B.take k))+65536^(i+k)*(f9 A i*f9 B k):=by
  rw[cy,cy,i4];congr 1;simp only[cY,mj,dg]
 rw[e2];generalize 65536^(i+k)=W at *
 have e3:W*(m+65536*d)=W*(r.toNat+f9 A i*f9 B k+c):=by rw[e]
 simp only[cy]at e3;rw[cY];omega
theorem Ir {A B:List UInt16}{i k:Nat}{R:List UInt16}{c:Nat}(h:RTimI A B i (k,R,c))(hi:i<A.length)(hk:¬(k<B.length\/0<c)):RTimO A B (i+1,R):=by
 obtain⟨h1,h2,h3,h4⟩:=h;simp only at h1 h2 h3 h4;rw[cT (l:=B) J,show c=0 by omega]at h4;refine⟨hi,h2,?_⟩;simp only;rw[yk A,cg,cY];omega
structure ROvr (A B:List UInt16) (q:Nat × List UInt16 × Nat):Prop where
 i:q.1<=A.length
 l:q.2.1.length=A.length
 u:nv (q.2.1.drop q.1)=nv (A.drop q.1)/nv B
 r:q.2.2=nv (A.drop q.1)%nv B
theorem Ey {A B:List UInt16}:ROvr A B (A.length,List.replicate A.length 0,0) :=
 ⟨aY,ap,by simp[nv],by simp[nv]⟩
theorem Ii {A B:List UInt16}{i:Nat}{Q:List UInt16}{r:Nat}{x:UInt16}(hb:0<nv B)(h:ROvr A B (i+1,Q,r))(hx:A[i]?=some x) :
  (x.toNat+65536*r)/nv B<65536/\ROvr A B (i,Q.set i (UInt16.ofNat ((x.toNat+65536*r)/nv B)),(x.toNat+65536*r)%nv B):=by
 obtain⟨h1,h2,h3,h4⟩:=h;simp only at h1 h2 h3 h4;have hxl:=cq x;have hrb:r<nv B:=by rw[h4];exact ep _ hb
 have hq:(x.toNat+65536*r)/nv B<65536:=by
  refine mc ?_;have:65536*(r+1)<=65536*nv B:=dE _ hrb;rw[dg (nv B)];omega
 refine⟨hq,by simp only;omega,by simp[h2],?_,?_⟩
 .simp only;have hget:(Q.set i (UInt16.ofNat ((x.toNat+65536*r)/nv B)))[i]?=some (UInt16.ofNat ((x.toNat+65536*r)/nv B)):=fA J;rw[i9 hget,i9 hx,bY,eE hq];have e2:(Q.set i (UInt16.ofNat ((x.toNat+65536*r)/nv B))).drop (i+1)=Q.drop (i+1):=by
   apply i6;intro j;rw[dF,dF,et J]
  rw[e2,h3];generalize nv (A.drop (i+1))=D0 at *
  have e3:=jE D0 (nv B);rw[<-h4]at e3;have e4:x.toNat+65536*D0=(x.toNat+65536*r)+nv B*(65536*(D0/nv B)):=by
   have e5:nv B*(65536*(D0/nv B))=65536*(nv B*(D0/nv B)):=by rw[mj]
   rw[e5];omega
  rw[e4,uc _ _ hb]
 .simp only;rw[i9 hx];generalize nv (A.drop (i+1))=D0 at *
  have e3:=jE D0 (nv B);rw[<-h4]at e3;have e4:x.toNat+65536*D0=(x.toNat+65536*r)+nv B*(65536*(D0/nv B)):=by
   have e5:nv B*(65536*(D0/nv B))=65536*(nv B*(D0/nv B)):=by rw[mj]
   rw[e5];omega
  rw[e4,zG]
theorem K8 {A B Q:List UInt16}{r:Nat}(h:ROvr A B (0,Q,r)):nv Q=nv A/nv B/\r=nv A%nv B:=by
 have h1:=h.u;have h2:=h.r;simp only[fO]at h1 h2;exact⟨h1,h2⟩
def eD (x:UInt16):List PV:=[I x.toNat]
theorem lS (a:List UInt16)(i:Nat)(ha:a.length<=1000000000)(hi:i<=4000000000):aU 209 [.sl (a.map eD),I i] (I (f9 a i)):=by
 have hal:(a.map eD).length=a.length:=ap;by_cases hlt:i<a.length
 .have hx:=eo (l:=a) (i:=i) hlt;rw[f9];generalize a.getD i 0=x at *
  refine aD Proofs.Tryz.func209 ?_;refine D ?_ ?_<;>intro h
  .clear h;refine aN hx ?_;exact cB
  .have:=bS h;omega
 .rw[Jp J];refine aD Proofs.Tryz.func209 ?_;refine D ?_ ?_<;>intro h
  .have:=bk h;omega
  .exact cB
theorem kr (l:List UInt16)(hl:l.length<=1000000000):aU 208 [.sl (l.map eD)] (.sl ((bN l).map eD)):=by
 have hml:(l.map eD).length=l.length:=ap;refine aD Proofs.Tryz.func208 ?_;refine H ?_;refine ai (fun k=>k<=l.length/\nv (l.take k)=nv l) (fun k=>[(0,.sl (l.map eD)),(3,I (k:Nat))]) (fun _=>[]) (fun k=>k) l.length ⟨aY,by rw[bI]⟩ ⟨O,by rw[<-hml];rfl,bh⟩ ?_;rintro k s ⟨hk,hv⟩;have hkl:(l.take k).length=k:=by rw[bc];omega
 have fin:(∀j,k=j+1->∀x,l[j]?=some x->x.toNat≠0)->l.take k=bN l:=by
  intro h0;rw[bN,<-hv];refine(kB fun y hy=>?_).symm;rw[qT,hkl]at hy;have hk0:0<k:=by
   rcases gc k with h|h
   .subst h;rw[dK]at hy;cases hy
   .exact h
  rw[cJ,if_pos J]at hy;exact h0 (k-1) J y hy
 have ending:(l.take k).map eD=(l.map eD).take k:=by rw[j9]
 refine fi ?_ ?_<;>intro h
 .have hk0:0<k:=cw h;clear h;obtain⟨j,rfl⟩:∃j,k=j+1:=⟨k-1,J⟩;obtain⟨x,hx⟩:=ay (show j<l.length by omega);have hw1:IntKind.i64.wrap (((j+1:Nat):Int)-1)=(j:Nat):=by rw[wrap_i64 J J];omega
  refine H ?_;rw[hw1];refine tp O O O O O O O hx O ?_;refine D ?_ ?_<;>intro h
  .have hx0:x.toNat=0:=cw h;clear h;refine H ?_;refine⟨j,⟨J,?_⟩,J,O,congrArg I hw1,bh⟩;rw[<-hv,gy hx,hx0];omega
  .have hx0:x.toNat≠0:=co h;clear h;have ht:=fin fun j' hj' x' hx'=>by
    obtain rfl:j=j':=J;rw[hx]at hx';cases hx';exact hx0
   rw[ht]at ending;have htl:((bN l).map eD).length=j+1:=by rw[aF,<-ht,hkl]
   refine H ?_;refine aC (bb 0 O O O O O O O O O O O ah O ?_);refine H ?_;refine ci O O (sy (n:=((j+1:Nat):Int)) O O O O O J J (fun _=>rfl)) ?_;rw[be,j9,<-ending];refine H ?_;refine aC (bO 1 O O O O O O O O O O O ah (by intro row hr;obtain⟨p,_,rfl⟩:=aW.1 hr;rfl) O O (by simp;have:=dy l;omega) (by simp;have:=dy l;omega) ?_);exact cA
 .have hk0:k=0:=co h;subst hk0;clear h;have ht:=fin fun j' hj'=>by omega
  rw[ht]at ending;refine H ?_;refine aC (bb 0 O O O O O O O O O O O ah O ?_);refine H ?_;refine ci O O (sy (n:=((0:Nat):Int)) O O O O O J J (fun _=>rfl)) ?_;rw[be,j9,<-ending];refine H ?_;refine aC (bO 1 O O O O O O O O O O O ah (by intro row hr;obtain⟨p,_,rfl⟩:=aW.1 hr;rfl) O O (by simp;have:=dy l;omega) (by simp;have:=dy l;omega) ?_);exact cA
theorem gG {α:Type}{l:List α}{k:Nat}{x:α}(h:l[k]?=some x):l.take (k+1)=l.take k++[x]:=by
 rw[q_,h];rfl
theorem jO (l:List UInt16)(hl:l.length<=900000000):aU 133 [.sl (l.map eU)] (.sl ((bN l).map eD)):=by
 have hml:(l.map eU).length=l.length:=ap;have ht:=kr l J;refine aD Proofs.Tryz.func133 ?_
 ((repeat (first|refine bJ ?_ | refine eg ?_ | refine dO ?_ | refine dH ?_));refine bZ ?_)
 refine lY O trivial ?_
 ((repeat (first|refine bJ ?_ | refine eg ?_ | refine dO ?_ | refine dH ?_));refine bZ ?_)
 (first|refine aC (kF 3 1 0 O O ?_)|refine aC (kE 3 1 0 O O ?_))
 refine H ?_;refine ai (fun k=>k<=l.length) (fun k=>[(0,.sl (l.map eU)),(3,.als 3 (k+1) 0 ((l.take k).map eD).length),(4,I (k:Nat))]) (fun k=>[(3,k+1,⟨3,1,(l.take k).map eD,0⟩)]) (fun k=>l.length-k) 0 (aP _) ah ?_;intro k s hk;refine D ?_ ?_<;>intro h
 .have hlt:k<l.length:=cw h;clear h;obtain⟨x,hx⟩:=ay hlt;have hxl:=cq x;have hkl:(l.take k).length=k:=by rw[bc];omega
  have hw:=dN k;have hcx:IntKind.i64.wrap (x.toNat:Int)=(x.toNat:Int):=wrap_i64 J J;refine aN hx ?_;refine H ?_;rw[hcx];refine aC (bb 0 O O O O O O O O O O O ah O ?_);refine H ?_;refine aC (bO 0 O O O O O O O O O O O ah fW O O aS aS ?_);refine H ?_;refine⟨k+1,hlt,J,O,?_,congrArg I hw,?_,bh⟩
  .rw[gG hx,bj];rfl
  .rw[gG hx,bj];rfl
 .have hge:k=l.length:=co h;subst hge;clear h;rw[bI]
  (refine cV 6 ?_;refine aR 1 ?_)
  refine iQ O ?_;refine bJ ?_;refine br O (gF (Ghost.takeF (enc:=eD) (t:=19) (l) O O (O) O (fun _=>rfl)) ?_)
  (refine oX (gC O (ht) O ?_ O) ?_;.repeat' constructor)
  refine aT ?_;refine H ?_;exact lC O O O trivial O
theorem rx (a b:List UInt16)(ha:a.length<=1000000000)(hb:b.length<=1000000000):aU 139 [.sl (a.map eD),.sl (b.map eD)] (I (oU a b)):=by
 have hal:(a.map eD).length=a.length:=ap;have hbl:(b.map eD).length=b.length:=ap;by_cases he:a.length=b.length
 .rw[oU,if_pos he];have hw0:IntKind.i64.wrap (((((a.map eD).length:Nat):Int))-1)=(a.length:Int)-1:=by rw[hal,wrap_i64 J J]
  refine aD Proofs.Tryz.func139 ?_;refine D ?_ ?_<;>intro h
  .simp at h;omega
  clear h;refine H ?_;rw[hw0];refine ai (fun k:Nat=>k<=a.length/\qA a b k=qA a b a.length) (fun k=>[(0,.sl (a.map eD)),(1,.sl (b.map eD)),(5,I ((k:Int)-1))]) (fun _=>[]) (fun k=>k) a.length ⟨aY,O⟩ ah ?_;rintro k s ⟨hk,hc⟩;rw[<-hc];refine D ?_ ?_<;>intro h
  .have hk0:0<k:=cw h;clear h;obtain⟨j,rfl⟩:∃j,k=j+1:=⟨k-1,J⟩;have e1:(((j+1:Nat):Int)-1)=(j:Nat):=J;rw[e1];have hx:=eo (l:=a) (i:=j) J;have hy:=eo (l:=b) (i:=j) J;have hc1:qA a b (j+1)=if (a.getD j 0).toNat=(b.getD j 0).toNat then qA a b j else((a.getD j 0).toNat:Int)-(b.getD j 0).toNat:=O
   have hxl:=cq (a.getD j 0);have hyl:=cq (b.getD j 0);generalize a.getD j 0=x,b.getD j 0=y at *
   refine cX 9 [23,24,25,26,27,28,29,30,31] ?_;refine aN hx ?_;refine aN hy ?_;refine D ?_ ?_<;>intro h
   .have hne:¬x.toNat=y.toNat:=by simp at h;intro he;apply h;omega
    clear h;rw[if_neg hne]at hc1;rw[hc1];refine cX 10 [32,33,34,35,36,37,38,39,40,4] ?_;refine aN hx ?_;refine aN hy ?_;refine H ?_;rw[wrap_i64 (n:=(x.toNat:Int)-(y.toNat:Int)) J J];exact cB
   .have hne:x.toNat=y.toNat:=by simp at h;omega
    clear h;rw[if_pos hne]at hc1;refine H ?_;refine⟨j,⟨J,by rw[<-hc1,hc]⟩,J,O,O,?_,bh⟩;exact congrArg I (wrap_i64 J J)
  .have hk0:k=0:=co h;subst hk0;clear h;exact cB
 .rw[oU,if_neg he];refine aD Proofs.Tryz.func139 ?_;refine D ?_ ?_<;>intro h
  .refine H ?_;rw[hal,hbl,wrap_i64 J J];exact o9 O O O
  .simp at h;omega
theorem uH (a:Nat):Int.tmod (a:Int) 65536=((UInt16.ofNat a).toNat:Int):=by
 rw[bY,Int.tmod_eq_emod_of_nonneg J];omega
theorem uF (a:Nat):Int.tdiv (a:Int) 65536=((a/65536:Nat):Int):=by
 rw[FU J];omega
theorem og (k:Nat)(l:List UInt16)(a:UInt16):PV.als k (l.length+1+1) 0 (l.map eD++[eD a]).length=PV.als k ((l++[a]).length+1) 0 ((l++[a]).map eD).length:=by simp
theorem lR (T sz kd:Nat)(l:List UInt16)(a:UInt16):(l.length+1+1,some (Cont.mk T sz (l.map eD++[eD a]) kd))=((l++[a]).length+1,some (Cont.mk T sz ((l++[a]).map eD) kd)):=by simp
theorem Ik (a b:List UInt16)(ha:a.length<=400000000)(hb:b.length<=400000000):aU 138 [.sl (a.map eD),.sl (b.map eD)] (.sl ((aJ (nv a+nv b)).map eD)):=by
 have hal:(a.map eD).length=a.length:=ap;have hbl:(b.map eD).length=b.length:=ap;refine aD Proofs.Tryz.func138 ?_
 ((repeat (first|refine bJ ?_ | refine eg ?_ | refine dO ?_ | refine dH ?_));refine bZ ?_)
 refine lY O trivial ?_
 ((repeat (first|refine bJ ?_ | refine eg ?_ | refine dO ?_ | refine dH ?_));refine bZ ?_)
 (first|refine aC (kF 3 1 0 O O ?_)|refine aC (kE 3 1 0 O O ?_))
 refine H ?_;refine ai (RPlus a b) (fun q=>[(0,.sl (a.map eD)),(1,.sl (b.map eD)),(5,.als 5 (q.2.1.length+1) 0 (q.2.1.map eD).length),(6,I (q.2.2:Nat)),(7,I (q.1:Nat))]) (fun q=>[(5,q.2.1.length+1,⟨3,1,q.2.1.map eD,0⟩)]) (fun q=>a.length+b.length+1-q.1) (0,[],0)
  ⟨O,Y,by simp only;omega,by simp[nv]⟩ ah ?_
 rintro⟨k,L,c⟩ s hI;have hc:=hI.c;have hLl:=hI.l;have hkk:=hI.k;simp only at hc hLl hkk;dsimp only;have hstep:=fun h=>ED hI h;have hend:=fun h=>Ij hI h;have e1:=lS a k J J;have e2:=lS b k J J;have hxl:=iz a k;have hyl:=iz b k;have hw:=dN k;have s1:IntKind.i64.wrap ((f9 a k:Int)+(f9 b k:Int))=((f9 a k+f9 b k:Nat):Int):=by rw[wrap_i64 J J];omega
 have s2:IntKind.i64.wrap (((f9 a k+f9 b k:Nat):Int)+(c:Int))=((f9 a k+f9 b k+c:Nat):Int):=by rw[wrap_i64 J J];omega
 generalize f9 a k=x,f9 b k=y at *
 have hr:Int.tmod ((x+y+c:Nat):Int) 65536=((UInt16.ofNat (x+y+c)).toNat:Int):=uH _;have hq:IntKind.i64.wrap (Int.tdiv ((x+y+c:Nat):Int) 65536)=(((x+y+c)/65536:Nat):Int):=by rw[uF,wrap_i64]<;>omega
 refine fi ?_ ?_<;>intro h
 .have hyes:k<a.length\/k<b.length\/0<c := .inl (by have:=bk h;rw[hal]at this;omega);clear h;have hst:=(hstep hyes).1;have hlt:=(hstep hyes).2;refine ax e1 ?_;refine ax e2 ?_;refine H ?_;rw[s1];refine H ?_;rw[s2];refine H ?_;refine ci O O (QOp.v O (show ¬(65536:Int)=0 by decide)) ?_;rw[hr];refine aC (bb 0 O O O O O O O O O O O ah O ?_);refine H ?_;refine aC (bO 0 O O O O O O O O O O O ah fW O O aS aS ?_);refine H ?_;refine ci O O (QOp.v O (show ¬(65536:Int)=0 by decide)) ?_;rw[hq];refine H ?_;refine⟨(k+1,L++[UInt16.ofNat (x+y+c)],(x+y+c)/65536),hst,by simp only;omega,O,O,?_,O,congrArg I hw,?_,bh⟩
  .exact og 5 L (UInt16.ofNat (x+y+c))
  .exact lR 3 1 0 L (UInt16.ofNat (x+y+c))
 .have h1:¬k<a.length:=by have:=bS h;rw[hal]at this;omega
  clear h;refine fi ?_ ?_<;>intro h
  .have hyes:k<a.length\/k<b.length\/0<c := .inr (.inl (by have:=bk h;rw[hbl]at this;omega));clear h;have hst:=(hstep hyes).1;have hlt:=(hstep hyes).2;refine ax e1 ?_;refine ax e2 ?_;refine H ?_;rw[s1];refine H ?_;rw[s2];refine H ?_;refine ci O O (QOp.v O (show ¬(65536:Int)=0 by decide)) ?_;rw[hr];refine aC (bb 0 O O O O O O O O O O O ah O ?_);refine H ?_;refine aC (bO 0 O O O O O O O O O O O ah fW O O aS aS ?_);refine H ?_;refine ci O O (QOp.v O (show ¬(65536:Int)=0 by decide)) ?_;rw[hq];refine H ?_;refine⟨(k+1,L++[UInt16.ofNat (x+y+c)],(x+y+c)/65536),hst,by simp only;omega,O,O,?_,O,congrArg I hw,?_,bh⟩
   .exact og 5 L (UInt16.ofNat (x+y+c))
   .exact lR 3 1 0 L (UInt16.ofNat (x+y+c))
  .have h2:¬k<b.length:=by have:=bS h;rw[hbl]at this;omega
   clear h;refine D ?_ ?_<;>intro h
   .have hyes:k<a.length\/k<b.length\/0<c := .inr (.inr (by have:=bk h;omega));clear h;have hst:=(hstep hyes).1;have hlt:=(hstep hyes).2;refine ax e1 ?_;refine ax e2 ?_;refine H ?_;rw[s1];refine H ?_;rw[s2];refine H ?_;refine ci O O (QOp.v O (show ¬(65536:Int)=0 by decide)) ?_;rw[hr];refine aC (bb 0 O O O O O O O O O O O ah O ?_);refine H ?_;refine aC (bO 0 O O O O O O O O O O O ah fW O O aS aS ?_);refine H ?_;refine ci O O (QOp.v O (show ¬(65536:Int)=0 by decide)) ?_;rw[hq];refine H ?_;refine⟨(k+1,L++[UInt16.ofNat (x+y+c)],(x+y+c)/65536),hst,by simp only;omega,O,O,?_,O,congrArg I hw,?_,bh⟩
    .exact og 5 L (UInt16.ofNat (x+y+c))
    .exact lR 3 1 0 L (UInt16.ofNat (x+y+c))
   .have h3:¬0<c:=co h;clear h;have hfin:=hend J;have ht:=kr L J;rw[bN,hfin]at ht
    (refine cV 9 ?_;refine aR 1 ?_)
    refine iQ O ?_;refine bJ ?_;refine br O (gF (Ghost.takeF (enc:=eD) (t:=41) (L) O O (O) O (fun _=>rfl)) ?_)
    (refine oX (gC O (ht) O ?_ O) ?_;.repeat' constructor)
    refine aT ?_;refine H ?_;exact lC O O O trivial O
theorem qd (a b:List UInt16)(ha:a.length<=900000000)(hb:b.length<=900000000)(hle:nv b<=nv a):aU 140 [.sl (a.map eD),.sl (b.map eD)] (.sl ((aJ (nv a-nv b)).map eD)):=by
 have hal:(a.map eD).length=a.length:=ap;refine aD Proofs.Tryz.func140 ?_
 ((repeat (first|refine bJ ?_ | refine eg ?_ | refine dO ?_ | refine dH ?_));refine bZ ?_)
 refine lY O trivial ?_
 ((repeat (first|refine bJ ?_ | refine eg ?_ | refine dO ?_ | refine dH ?_));refine bZ ?_)
 (first|refine aC (kF 3 1 0 O O ?_)|refine aC (kE 3 1 0 O O ?_))
 refine H ?_;refine ai (RMin a b) (fun q=>[(0,.sl (a.map eD)),(1,.sl (b.map eD)),(5,.als 5 (q.2.1.length+1) 0 (q.2.1.map eD).length),(6,I (q.2.2:Nat)),(7,I (q.1:Nat))]) (fun q=>[(5,q.2.1.length+1,⟨3,1,q.2.1.map eD,0⟩)]) (fun q=>a.length-q.1) (0,[],0)
  ⟨O,Y,aP _,by simp[nv]⟩ ah ?_
 rintro⟨k,L,c⟩ s hI;have hc:=hI.c;have hLl:=hI.l;have hkk:=hI.k;simp only at hc hLl hkk;dsimp only;refine D ?_ ?_<;>intro h
 .have hlt:k<a.length:=cw h;clear h;have hst:=If hI hlt;have hx:=eo (l:=a) (i:=k) hlt;have e2:=lS b k J J;have hxl:=iz a k;have hyl:=iz b k;have hw:=dN k;have hX:(a.getD k 0).toNat=f9 a k:=O;generalize f9 b k=y,f9 a k=X,a.getD k 0=x at *
  subst hX;have s1:IntKind.i64.wrap ((x.toNat:Int)-(y:Int))=(x.toNat:Int)-(y:Int):=by rw[wrap_i64 J J]
  have s2:IntKind.i64.wrap ((x.toNat:Int)-(y:Int)-(c:Int))=(x.toNat:Int)-(y:Int)-(c:Int):=by rw[wrap_i64 J J]
  have hlen:(L.map eD).length=L.length:=ap;have hsd:=O_ hxl hyl hc;have hrow:∀m:Nat,m<65536->eD (UInt16.ofNat m)=[I (m:Nat)]:=fun m hm=>by rw[eD,bY,eE hm]
  by_cases hn:x.toNat<y+c
  .have hd:(x.toNat:Int)-(y:Int)-(c:Int)+65536=((IY x.toNat y c:Nat):Int):=by rw[IY,if_pos hn];omega
   have s3:IntKind.i64.wrap ((x.toNat:Int)-(y:Int)-(c:Int)+65536)=((IY x.toNat y c:Nat):Int):=by rw[hd,wrap_i64 J J]
   have hcc:NI x.toNat y c=1:=by rw[NI,if_pos hn]
   rw[hcc]at hst;have hrw:=hrow _ hsd.2.1;generalize IY x.toNat y c=D0 at *
   refine cX 11 [15,16,17,18,19,20,21,22,23,24,8] ?_;refine aN hx ?_;refine ax e2 ?_;refine H ?_;rw[s1];refine H ?_;rw[s2];refine D ?_ ?_<;>intro h
   .clear h;refine H ?_;rw[s3];refine H ?_;refine aC (bb 0 O O O O O O O O O O O ah O ?_);refine H ?_;refine aC (bO 0 O O O O O O O O O O O ah fW O O aS aS ?_);refine H ?_;refine⟨(k+1,L++[UInt16.ofNat D0],1),hst,by simp only;omega,O,O,?_,O,congrArg I hw,?_,bh⟩
    .have:=og 5 L (UInt16.ofNat D0);rw[hrw]at this;exact this
    .have:=lR 3 1 0 L (UInt16.ofNat D0);rw[hrw]at this;exact this
   .have:=bS h;omega
  .have hd:(x.toNat:Int)-(y:Int)-(c:Int)=((IY x.toNat y c:Nat):Int):=by rw[IY,if_neg hn];omega
   rw[hd]at s2;have hcc:NI x.toNat y c=0:=by rw[NI,if_neg hn]
   rw[hcc]at hst;have hrw:=hrow _ hsd.2.1;generalize IY x.toNat y c=D0 at *
   refine cX 11 [15,16,17,18,19,20,21,22,23,24,8] ?_;refine aN hx ?_;refine ax e2 ?_;refine H ?_;rw[s1];refine H ?_;rw[hd,s2];refine H ?_;refine aC (bb 0 O O O O O O O O O O O ah O ?_);refine H ?_;refine aC (bO 0 O O O O O O O O O O O ah fW O O aS aS ?_);refine H ?_;refine⟨(k+1,L++[UInt16.ofNat D0],0),hst,by simp only;omega,O,O,?_,O,congrArg I hw,?_,bh⟩
   .have:=og 5 L (UInt16.ofNat D0);rw[hrw]at this;exact this
   .have:=lR 3 1 0 L (UInt16.ofNat D0);rw[hrw]at this;exact this
 .have hge:k=a.length:=co h;subst hge;clear h;have hfin:=K5 hI hle;have ht:=kr L J;rw[bN,hfin]at ht
  (refine cV 12 ?_;refine aR 1 ?_)
  refine iQ O ?_;refine bJ ?_;refine br O (gF (Ghost.takeF (enc:=eD) (t:=33) (L) O O (O) O (fun _=>rfl)) ?_)
  (refine oX (gC O (ht) O ?_ O) ?_;.repeat' constructor)
  refine aT ?_;refine H ?_;exact lC O O O trivial O
theorem KX (n:Nat):List.replicate n [PV.int .i64 0]=(List.replicate n (0:UInt16)).map eD:=by rw[List.map_replicate];rfl
theorem Bh (k g i:Nat)(R:List UInt16)(y:UInt16):PV.als k g 0 (((R.map eD).set i (eD y))).length=PV.als k g 0 ((R.set i y).map eD).length:=by simp
theorem x5 (g T sz kd i:Nat)(R:List UInt16)(y:UInt16):(g,some (Cont.mk T sz ((R.map eD).set i (eD y)) kd))=(g,some (Cont.mk T sz ((R.set i y).map eD) kd)):=by rw[gY]
theorem qg (a b:List UInt16)(ha:a.length<=400000000)(hb:b.length<=400000000):aU 141 [.sl (a.map eD),.sl (b.map eD)] (.sl ((aJ (nv a*nv b)).map eD)):=by
 have hal:(a.map eD).length=a.length:=ap;have hbl:(b.map eD).length=b.length:=ap;have hw0:IntKind.i64.wrap ((((a.map eD).length:Nat):Int)+(((b.map eD).length:Nat):Int))=((a.length+b.length:Nat):Int):=by rw[hal,hbl,wrap_i64 J J];omega
 have hw1:IntKind.i64.wrap (((a.length+b.length:Nat):Int)+1)=((a.length+b.length+1:Nat):Int):=by rw[wrap_i64 J J];omega
 refine aD Proofs.Tryz.func141 ?_;refine H ?_;rw[hw0];refine H ?_;rw[hw1];refine aC (mK O O O O O O O O J (by show(8:Int)*_<=_;omega) J ?_);rw[be,KX];refine H ?_;refine ai (RTimO a b) (fun q=>[(0,.sl (a.map eD)),(1,.sl (b.map eD)),(5,.als 16 1 0 (q.2.map eD).length),(6,I q.1)])
  (fun q=>[(16,1,⟨3,1,q.2.map eD,0⟩)]) (fun q=>a.length-q.1) (0,List.replicate (a.length+b.length+1) 0) ⟨aP _,ap,by simp[nv];exact Aw _⟩ ah ?_
 rintro⟨i,R⟩ s1 hO;have hi:=hO.i;have hRl:=hO.l;simp only at hi hRl;dsimp only;refine D ?_ ?_<;>intro h
 .have hlt:i<a.length:=cw h;clear h;refine H ?_;refine ai (RTimI a b i) (fun q=>[(0,.sl (a.map eD)),(1,.sl (b.map eD)),(5,.als 16 1 0 (q.2.1.map eD).length),(6,I i),(7,I (q.2.2:Nat)),(8,I (q.1:Nat))])
   (fun q=>[(16,1,⟨3,1,q.2.1.map eD,0⟩)]) (fun q=>b.length+1-q.1) (0,R,0) (EF hO) ah ?_
  rintro⟨k,Q,c⟩ s2 hI;have hk:=hI.k;have hc:=hI.c;have hQl:=hI.l;simp only at hk hc hQl;dsimp only;have hQm:(Q.map eD).length=Q.length:=ap;have body:∀_:k<b.length\/0<c,True:=fun _=>trivial;clear body;have hkB:=fun h=>QE hI h;have hstep:=fun h=>Is (r:=Q.getD (i+k) 0) hI h;have hnext:=fun h=>Ir hI hlt h;refine fi ?_ ?_<;>intro h
  .have hyes:k<b.length\/0<c := .inl (by have:=bk h;omega);clear h;have hkb:=hkB hyes;have hr:=eo (l:=Q) (i:=i+k) J;have hst:=hstep hkb hr;have hx:=eo (l:=a) (i:=i) hlt;have hX:(a.getD i 0).toNat=f9 a i:=O;have hxl:=iz a i;have hyl:=iz b k;have e2:=lS b k J J;have hm:=Ca hxl hyl;have hrl:=cq (Q.getD (i+k) 0);have hr2:(Q.map eD)[i+k]?=some (eD (Q.getD (i+k) 0)):=by rw[bw,hr];rfl
   have ei:IntKind.i64.wrap ((i:Int)+(k:Int))=((i+k:Nat):Int):=by rw[wrap_i64 J J];omega
   generalize Q.getD (i+k) 0=r,f9 b k=y,f9 a i=X,a.getD i 0=x at *
   subst hX;have s1:IntKind.i64.wrap ((x.toNat:Int)*(y:Int))=((x.toNat*y:Nat):Int):=by rw[<-jG,wrap_i64 J J]
   have s2:IntKind.i64.wrap ((r.toNat:Int)+((x.toNat*y:Nat):Int))=((r.toNat+x.toNat*y:Nat):Int):=by rw[wrap_i64 J J];omega
   have s3:IntKind.i64.wrap (((r.toNat+x.toNat*y:Nat):Int)+(c:Int))=((r.toNat+x.toNat*y+c:Nat):Int):=by rw[wrap_i64 J J];omega
   generalize x.toNat*y=P at *
   have hrm:Int.tmod ((r.toNat+P+c:Nat):Int) 65536=((UInt16.ofNat (r.toNat+P+c)).toNat:Int):=uH _;have hq:IntKind.i64.wrap (Int.tdiv ((r.toNat+P+c:Nat):Int) 65536)=(((r.toNat+P+c)/65536:Nat):Int):=by rw[uF,wrap_i64]<;>omega
   generalize hsm:r.toNat+P+c=sm at *
   refine cX 18 [33,34,35,36,37,38,39,40,41,42,43,44,45,46,47,48,49,9] ?_;refine H ?_;rw[ei];refine ci O O (cF O O O O O O O J (by rw[aF];omega)) ?_;rw[be,aM (i+k)];refine ci O O (du O O O hr2 O) ?_;refine aN hx ?_;refine ax e2 ?_;refine H ?_;rw[s1];refine H ?_;rw[s2];refine H ?_;rw[s3];refine H ?_;rw[ei];refine H ?_;refine ci O O (QOp.v O (show ¬(65536:Int)=0 by decide)) ?_;rw[hrm];refine H ?_;refine ci O O (cF O O O O O O O J (by rw[aF];omega)) ?_;rw[be,aM (i+k)];refine eF (cP (kd':=0) O O O hr2 O O ah O O O O ?_);refine H ?_;refine ci O O (QOp.v O (show ¬(65536:Int)=0 by decide)) ?_;rw[hq];refine H ?_;refine⟨(k+1,_,_),hst,by simp only;omega,O,O,?_,O,O,c9 J J,?_,bh⟩
   .show PV.als 16 1 0 (Q.map eD).length=_;rw[<-Bh 16 1 (i+k) Q (UInt16.ofNat sm),jF]
   .exact x5 1 3 1 0 (i+k) Q (UInt16.ofNat sm)
  .have h1:¬k<b.length:=co h;clear h;refine D ?_ ?_<;>intro h
   .have hyes:k<b.length\/0<c := .inr (by have:=bk h;omega);clear h;have hkb:=hkB hyes;have hr:=eo (l:=Q) (i:=i+k) J;have hst:=hstep hkb hr;have hx:=eo (l:=a) (i:=i) hlt;have hX:(a.getD i 0).toNat=f9 a i:=O;have hxl:=iz a i;have hyl:=iz b k;have e2:=lS b k J J;have hm:=Ca hxl hyl;have hrl:=cq (Q.getD (i+k) 0);have hr2:(Q.map eD)[i+k]?=some (eD (Q.getD (i+k) 0)):=by rw[bw,hr];rfl
    have ei:IntKind.i64.wrap ((i:Int)+(k:Int))=((i+k:Nat):Int):=by rw[wrap_i64 J J];omega
    generalize Q.getD (i+k) 0=r,f9 b k=y,f9 a i=X,a.getD i 0=x at *
    subst hX;have s1:IntKind.i64.wrap ((x.toNat:Int)*(y:Int))=((x.toNat*y:Nat):Int):=by rw[<-jG,wrap_i64 J J]
    have s2:IntKind.i64.wrap ((r.toNat:Int)+((x.toNat*y:Nat):Int))=((r.toNat+x.toNat*y:Nat):Int):=by rw[wrap_i64 J J];omega
    have s3:IntKind.i64.wrap (((r.toNat+x.toNat*y:Nat):Int)+(c:Int))=((r.toNat+x.toNat*y+c:Nat):Int):=by rw[wrap_i64 J J];omega
    generalize x.toNat*y=P at *
    have hrm:Int.tmod ((r.toNat+P+c:Nat):Int) 65536=((UInt16.ofNat (r.toNat+P+c)).toNat:Int):=uH _;have hq:IntKind.i64.wrap (Int.tdiv ((r.toNat+P+c:Nat):Int) 65536)=(((r.toNat+P+c)/65536:Nat):Int):=by rw[uF,wrap_i64]<;>omega
    generalize hsm:r.toNat+P+c=sm at *
    refine cX 18 [33,34,35,36,37,38,39,40,41,42,43,44,45,46,47,48,49,9] ?_;refine H ?_;rw[ei];refine ci O O (cF O O O O O O O J (by rw[aF];omega)) ?_;rw[be,aM (i+k)];refine ci O O (du O O O hr2 O) ?_;refine aN hx ?_;refine ax e2 ?_;refine H ?_;rw[s1];refine H ?_;rw[s2];refine H ?_;rw[s3];refine H ?_;rw[ei];refine H ?_;refine ci O O (QOp.v O (show ¬(65536:Int)=0 by decide)) ?_;rw[hrm];refine H ?_;refine ci O O (cF O O O O O O O J (by rw[aF];omega)) ?_;rw[be,aM (i+k)];refine eF (cP (kd':=0) O O O hr2 O O ah O O O O ?_);refine H ?_;refine ci O O (QOp.v O (show ¬(65536:Int)=0 by decide)) ?_;rw[hq];refine H ?_;refine⟨(k+1,_,_),hst,by simp only;omega,O,O,?_,O,O,c9 J J,?_,bh⟩
    .show PV.als 16 1 0 (Q.map eD).length=_;rw[<-Bh 16 1 (i+k) Q (UInt16.ofNat sm),jF]
    .exact x5 1 3 1 0 (i+k) Q (UInt16.ofNat sm)
   .have h2:¬0<c:=co h;clear h;have hst:=hnext J;refine H ?_;refine⟨(i+1,Q),hst,by simp only;omega,O,O,O,c9 J J,O,bh⟩
 .have hge:i=a.length:=co h;subst hge;clear h;have hv:=hO.v;simp only[bI]at hv;have ht:=kr R J;rw[bN,hv]at ht
  (refine cV 12 ?_;refine aR 1 ?_)
  refine iQ O ?_;refine bJ ?_;refine br O (gF (Ghost.takeF (enc:=eD) (t:=59) (R) O O (O) O (fun _=>rfl)) ?_)
  (refine oX (gC O (ht) O ?_ O) ?_;.repeat' constructor)
  refine aT ?_;refine H ?_;exact lC O O O trivial O
theorem Kz {m:Nat}(h:m<65536):nv [UInt16.ofNat m]=m:=by simp[nv];omega
theorem Jy {m:Nat}(h:m<65536):eD (UInt16.ofNat m)=[I (m:Nat)]:=by rw[eD,bY,eE h]
theorem Gk (x:UInt16)(l:List UInt16):nv (x::l)=x.toNat+65536*nv l:=rfl
theorem mD {n:Nat}{L:List UInt16}(h:n<=nv L):(aJ n).length<=L.length:=ec (mz h (dV L))
def Rs (a b:List UInt16):PV := .tup [.sl ((aJ (nv a/nv b)).map eD),.sl ((aJ (nv a%nv b)).map eD)]
structure RHalf (q lo hi:Nat):Prop where
 l:lo<=q
 h:q<=hi
 m:hi<=65535
theorem sJ (a b:List UInt16)(ha:a.length<=200000000)(hb:b.length<=200000000)(hb0:nv b≠0):aU 137 [.sl (a.map eD),.sl (b.map eD)] (Rs a b):=by
 have hal:(a.map eD).length=a.length:=ap;have hbp:0<nv b:=mB hb0;rw[Rs];have hw0:IntKind.i64.wrap ((((a.map eD).length:Nat):Int)-1)=((a.length:Nat):Int)-1:=by rw[hal,wrap_i64 J J]
 refine aD Proofs.Tryz.func137 ?_;refine cV 2 ?_;refine ao (Ghost.nilsl (t:=6) O) ?_;refine H ?_;refine aC (mK O O O O O O O O J (by show(8:Int)*_<=_;omega) J ?_);rw[hal,be,KX];refine H ?_;rw[hw0];refine ai (ROvr a b) (fun q=>[(0,.sl (a.map eD)),(1,.sl (b.map eD)),(6,.sl ((aJ q.2.2).map eD)),(7,.als 14 1 0 (q.2.1.map eD).length),(8,I ((q.1:Int)-1))])
  (fun q=>[(14,1,⟨3,1,q.2.1.map eD,0⟩)]) (fun q=>q.1) (a.length,List.replicate a.length 0,0) Ey ⟨O,O,by rw[cW];rfl,ah⟩ ?_
 rintro⟨k,Q,r⟩ s1 hO;have hk:=hO.i;have hQl:=hO.l;simp only at hk hQl;dsimp only;refine D ?_ ?_<;>intro h
 .have hk0:0<k:=cw h;clear h;obtain⟨i,rfl⟩:∃i,k=i+1:=⟨k-1,J⟩;have e1:(((i+1:Nat):Int)-1)=(i:Nat):=J;rw[e1];obtain⟨x,hx⟩:=ay (show i<a.length by omega);have hxl:=cq x;obtain⟨hq,hst⟩:=Ii hbp hO hx;have hrb:r<nv b:=by have:=hO.r;simp only at this;rw[this];exact ep _ hbp
  have hrl:(aJ r).length<=200000000:=by have:=mD (L:=b) (mr hrb);omega
  have htr:=kr (x::aJ r) aS;rw[bN,Gk,bi]at htr;have hRl:(aJ (x.toNat+65536*r)).length<=200000001:=by
   have:=fS (x::aJ r);rw[Gk,bi]at this;simp at this;omega
  generalize hR:x.toNat+65536*r=R at *
  have hRm:R%nv b=R-nv b*(R/nv b):=by have:=jE R (nv b);omega
  have hQm:(Q.map eD).length=Q.length:=ap;have hQi:=eo (l:=Q) (i:=i) J;have hQ2:(Q.map eD)[i]?=some (eD (Q.getD i 0)):=by rw[bw,hQi];rfl
  have hrow:(x::aJ r).map eD=[eD x]++(aJ r).map eD:=O
  (refine cV 6 ?_;refine aR 7 ?_)
  iterate 2 refine iQ O ?_
  refine tp O O O O O O O hx O ?_;refine iQ O ?_;refine aC (bb 0 O O O O O O O O O O O ah O ?_);refine iQ O ?_;refine aC (bO 1 O O O O O O O O O O O ah (by intro row hr;obtain⟨p,_,rfl⟩:=aW.1 hr;rfl) O O aS aS ?_);refine bJ ?_;refine br O (gF (Ghost.takeF (enc:=eD) (t:=28) (x::aJ r) O O (O) O (fun _=>rfl)) ?_)
  (refine oX (gC O (htr) O ?_ O) ?_;.repeat' constructor)
  refine aT ?_;refine H ?_;refine ai (fun q:Nat × Nat=>RHalf (R/nv b) q.1 q.2) (fun q=>[(0,.sl (a.map eD)),(1,.sl (b.map eD)),(6,.sl ((aJ R).map eD)),(7,.als 14 1 0 (Q.map eD).length),(8,I (i:Nat)),(9,I (q.1:Nat)),(10,I (q.2:Nat))])
   (fun q=>[(14,1,⟨3,1,Q.map eD,0⟩)]) (fun q=>q.2-q.1) (0,65535) ⟨aP _,by simp only;omega,aY⟩ ah ?_
  rintro⟨lo,hi⟩ s2 ⟨hl,hh,hm⟩;simp only at hl hh hm;dsimp only;refine D ?_ ?_<;>intro h
  .have hlt:lo<hi:=cw h;clear h;have w1:IntKind.i64.wrap ((lo:Int)+(hi:Int))=((lo+hi:Nat):Int):=by rw[wrap_i64 J J];omega
   have w2:IntKind.i64.wrap (((lo+hi:Nat):Int)+1)=((lo+hi+1:Nat):Int):=by rw[wrap_i64 J J];omega
   have w3:IntKind.i64.wrap (Int.tdiv ((lo+hi+1:Nat):Int) 2)=(((lo+hi+1)/2:Nat):Int):=by rw[FU J,wrap_i64]<;>omega
   generalize hmm:(lo+hi+1)/2=m at *
   have w4:IntKind.i64.wrap ((m:Int)-1)=((m-1:Nat):Int):=by rw[wrap_i64 J J];omega
   have hm1:m<65536:=J;have ht:=qg b [UInt16.ofNat m] J ap;rw[Kz hm1,show [UInt16.ofNat m].map eD=[eD (UInt16.ofNat m)] from O,Jy hm1]at ht;have hbm:(aJ (nv b*m)).length<=300000000:=by
    have h1:nv b*m<65536^(b.length+1):=by
     have:=jT (dV b) (show m<65536^1 by omega);exact this
    have:=ec h1;omega
   have hc:=rx (aJ (nv b*m)) (aJ R) J J;have hcs:=ko (cU (nv b*m)) (cU R);rw[bi,bi]at hcs;have hle:oU (aJ (nv b*m)) (aJ R)<=0↔m<=R/nv b:=by
    rw[tZ hbp,dg m];omega
   generalize oU (aJ (nv b*m)) (aJ R)=cv at *
   generalize aJ (nv b*m)=BM at *
   refine H ?_;rw[w1];refine H ?_;rw[w2];refine H ?_;refine ci O O (QOp.v O (show ¬(2:Int)=0 by decide)) ?_;rw[w3];refine H ?_;refine ci O O (fE O O O O O O O O O O ah O) ?_;refine G ht ?_;refine ax hc ?_;refine D ?_ ?_<;>intro h
   .have h1:=hle.1 (bk h);clear h;refine H ?_;exact⟨(m,hi),⟨h1,hh,hm⟩,by simp only;omega,ah⟩
   .have h1:¬m<=R/nv b:=fun h2=>(bS h) (hle.2 h2);clear h;refine H ?_;exact⟨(lo,m-1),⟨hl,by simp only;omega,by simp only;omega⟩,by simp only;omega,O,O,O,O,O,O,congrArg I w4,O,bh⟩
  .have hge:lo=R/nv b:=co h;clear h;have hw:=gp ((i:Int)-1);rw[<-hge]at hst hRm;have hlo:lo<65536:=J;have hlb:nv b*lo<=R:=by rw[hge];exact Nat.mul_div_le R (nv b)
   have hbl:(aJ (nv b*lo)).length<=200000001:=by have:=ig hlb;omega
   have ht:=qg b [UInt16.ofNat lo] J ap;rw[Kz hlo,show [UInt16.ofNat lo].map eD=[eD (UInt16.ofNat lo)] from O,Jy hlo]at ht;have hmn:=qd (aJ R) (aJ (nv b*lo)) J J (by rw[bi,bi];exact hlb);rw[bi,bi,<-hRm]at hmn;have hset:(Q.map eD).set i [I (lo:Nat)]=(Q.set i (UInt16.ofNat lo)).map eD:=by rw[gY,Jy hlo]
   have hsetl:(Q.map eD).length=((Q.set i (UInt16.ofNat lo)).map eD).length:=ap;generalize aJ (nv b*lo)=BL at *
   refine H ?_;refine ci O O (cF O O O O O O O J (by rw[aF];omega)) ?_;rw[be,aM i];refine eF (cP (kd':=0) O O O hQ2 O O ah O O O O ?_);refine D ?_ ?_<;>intro h
   .have h1:0<lo:=cw h;clear h;refine H ?_;refine ci O O (fE O O O O O O O O O O ah O) ?_;refine G ht ?_;refine G hmn ?_;refine H ?_;refine⟨(i,Q.set i (UInt16.ofNat lo),R%nv b),hst,by simp only;omega,O,O,O,?_,congrArg I hw,?_,bh⟩
    .exact congrArg (PV.als 14 1 0) hsetl
    .show(1,some (Cont.mk 3 1 ((Q.map eD).set i [I (lo:Nat)]) 0))=_;rw[hset]
   .have h1:lo=0:=co h;clear h;have hRR:R%nv b=R:=by rw[hRm,h1];omega
    refine H ?_;refine⟨(i,Q.set i (UInt16.ofNat lo),R%nv b),hst,by simp only;omega,O,O,by rw[hRR];rfl,?_,congrArg I hw,?_,bh⟩
    .exact congrArg (PV.als 14 1 0) hsetl
    .show(1,some (Cont.mk 3 1 ((Q.map eD).set i [I (lo:Nat)]) 0))=_;rw[hset]
 .have hk0:k=0:=co h;subst hk0;clear h;obtain⟨hv,hr⟩:=K8 hO;subst hr;have ht:=kr Q J;rw[bN,hv]at ht
  (refine cV 16 ?_;refine aR 1 ?_)
  refine iQ O ?_;refine bJ ?_;refine br O (gF (Ghost.takeF (enc:=eD) (t:=60) (Q) O O (O) O (fun _=>rfl)) ?_)
  (refine oX (gC O (ht) O ?_ O) ?_;.repeat' constructor)
  refine aT ?_;refine H ?_;exact DT O O O O O trivial trivial O
theorem K3 (a b:List UInt16)(ha:a.length<=100000000)(hb:b.length<=100000000)(hta:Trm a)(htb:Trm b):aU 136 [.sl (a.map eD),.sl (b.map eD)] (.sl ((aJ (Nat.gcd (nv a) (nv b))).map eD)):=by
 generalize hg:Nat.gcd (nv a) (nv b)=g;refine aD Proofs.Tryz.func136 ?_;refine H ?_;refine ai (fun q:List UInt16 × List UInt16=>q.1.length<=100000000/\q.2.length<=100000000/\Trm q.1/\Trm q.2/\Nat.gcd (nv q.1) (nv q.2)=g) (fun q=>[(0,.sl (q.1.map eD)),(1,.sl (q.2.map eD))]) (fun _=>[]) (fun q=>nv q.2) (a,b) ⟨ha,hb,hta,htb,hg⟩ ah ?_;rintro⟨A,B⟩ s ⟨hA,hB,htA,htB,hG⟩;simp only at hA hB htA htB hG;dsimp only;have hBm:(B.map eD).length=B.length:=ap;refine D ?_ ?_<;>intro h
 .have hB0:0<B.length:=cw h;clear h;have hB0v:nv B≠0:=by
   match B,hB0,htB with
   |x::l,_,h=>exact uO h
  have hd:=sJ A B J J hB0v;rw[Rs]at hd;have hml:=ep (nv A) (mB hB0v);have hnext:(aJ (nv A%nv B)).length<=100000000:=by
   have h1:=ig (mr hml);have h2:=fS B;omega
  have hG2:Nat.gcd (nv B) (nv (aJ (nv A%nv B)))=g:=by rw[bi,iY,<-rh,iY];exact hG
  refine G hd ?_;refine H ?_;exact⟨(B,aJ (nv A%nv B)),⟨hB,hnext,htB,cU _,hG2⟩,by simp only;rw[bi];exact hml,ah⟩
 .have hB0:B.length=0:=co h;clear h;have hB0v:=ov.1 hB0;subst hB0v;rw[nv,q8]at hG;rw[<-hG,kB htA];refine H ?_;exact lC O O O trivial O
theorem Kx (neg:Bool)(l:List UInt16)(h:Trm l):di (iP neg (nv l))=⟨neg&&decide (0<l.length),l⟩:=by
 rw[uC];cases l with
 |nil=>rw[nv,if_pos rfl];simp
 |cons x l =>
  rw[if_neg (uO h),kB h];simp
theorem i7 (neg:Bool)(l:List UInt16)(hl:l.length<=900000000)(ht:Trm l):aU 134 [.bool neg,.sl (l.map eD)] (.agg (eI (di (iP neg (nv l))))):=by
 have hml:(l.map eD).length=l.length:=ap;rw[Kx neg l ht];cases neg with
 |false =>
  rw[fg];refine aD Proofs.Tryz.func134 ?_;refine cV 2 ?_;refine ao (Ghost.nilcell (k:=1007) (k0:=5) (i:=0) (j:=1) 218 1 0 O O O O (row:=[.bool false,.nil]) O O O) ?_;refine H ?_;refine ai (fun k=>k<=l.length) (fun k=>[(1,.sl (l.map eD)),(4,.ptr 4 1 0 0),(5,.ptr 5 1 0 0),(6,I (k:Nat))])
   (fun k=>[(4,1,⟨39,2,[[.bool false,.nil]],2⟩),(5,1,⟨39,2,[[.bool false,.als 1007 (k+1) 0 ((l.take k).map eU).length]],2⟩),(1007,k+1,⟨218,1,(l.take k).map eU,0⟩)]) (fun k=>l.length-k) 0 (aP _) ah ?_
  intro k s hk;refine D ?_ ?_<;>intro h
  .have hlt:k<l.length:=cw h;clear h;obtain⟨x,hx⟩:=ay hlt;have hxl:=cq x;have hkl:(l.take k).length=k:=by rw[bc];omega
   have hw:=dN k;have hcx:IntKind.u16.wrap (x.toNat:Int)=(x.toNat:Int):=by rw[IntKind.wrap_u16];omega
   refine cX 8 [20,21,22,23,24,25,26,27] ?_;refine aN hx ?_;refine H ?_;rw[hcx];refine ci O O (fE O O O O O O O O O O ah O) ?_;refine H ?_;refine aC (bO 0 O O O O O O O O O O O ah fW O O aS aS ?_);refine H ?_;refine⟨k+1,hlt,J,O,O,O,congrArg I hw,O,?_,?_,bh⟩
   .rw[gG hx,bj];rfl
   .rw[gG hx,bj];rfl
  .have hge:k=l.length:=co h;subst hge;clear h;rw[bI];exact cA
 |true =>
  rw[iX];have hd:decide ((0:Int)<(((l.map eD).length:Nat):Int))=decide (0<l.length):=by rw[hml,decide_eq_decide];omega
  rw[<-hd];generalize hP:decide ((0:Int)<(((l.map eD).length:Nat):Int))=P;refine aD Proofs.Tryz.func134 ?_
  ((repeat (first|refine bJ ?_ | refine eg ?_ | refine dO ?_ | refine dH ?_));refine bZ ?_)
  refine cV 2 ?_;rw[hP];refine ao (Ghost.nilcell (k:=1007) (k0:=5) (i:=0) (j:=1) 218 1 0 O O O O (row:=[.bool P,.nil]) O O O) ?_;refine H ?_;refine ai (fun k=>k<=l.length) (fun k=>[(1,.sl (l.map eD)),(4,.ptr 4 1 0 0),(5,.ptr 5 1 0 0),(6,I (k:Nat))])
   (fun k=>[(4,1,⟨39,2,[[.bool false,.nil]],2⟩),(5,1,⟨39,2,[[.bool P,.als 1007 (k+1) 0 ((l.take k).map eU).length]],2⟩),(1007,k+1,⟨218,1,(l.take k).map eU,0⟩)]) (fun k=>l.length-k) 0 (aP _) ah ?_
  intro k s hk;refine D ?_ ?_<;>intro h
  .have hlt:k<l.length:=cw h;clear h;obtain⟨x,hx⟩:=ay hlt;have hxl:=cq x;have hkl:(l.take k).length=k:=by rw[bc];omega
   have hw:=dN k;have hcx:IntKind.u16.wrap (x.toNat:Int)=(x.toNat:Int):=by rw[IntKind.wrap_u16];omega
   refine cX 8 [20,21,22,23,24,25,26,27] ?_;refine aN hx ?_;refine H ?_;rw[hcx];refine ci O O (fE O O O O O O O O O O ah O) ?_;refine H ?_;refine aC (bO 0 O O O O O O O O O O O ah fW O O aS aS ?_);refine H ?_;refine⟨k+1,hlt,J,O,O,O,congrArg I hw,O,?_,?_,bh⟩
   .rw[gG hx,bj];rfl
   .rw[gG hx,bj];rfl
  .have hge:k=l.length:=co h;subst hge;clear h;rw[bI];exact cA
theorem vY {n:Nat}{L:List UInt16}{u:Nat}(h:aJ n=L++aJ u)(hu:0<u):aJ n=(L++[UInt16.ofNat u])++aJ (u/65536):=by
 rw[h,gN J,bg];rfl
theorem vX {n:Nat}(h:n<18446744073709551616):(aJ n).length<=4:=by
 have e:(65536:Nat)^4=18446744073709551616:=Y;exact ec J
theorem NF (n:Int)(h0:0<=n)(h1:n<=9223372036854775807):aU 135 [I n] (.agg (eI (di n))):=by
 have hm:=i7 false (aJ n.toNat) (by have:=vX (n:=n.toNat) J;omega) (cU _);rw[bi,show iP false n.toNat=n by rw[iP];simp;omega]at hm;have hcv:IntKind.u64.wrap n=((n.toNat:Nat):Int):=by rw[wrap_u64 J J];omega
 have hnl:=vX (n:=n.toNat) J;have hlt:decide (n<0)=false:=decide_eq_false J;generalize di n=Z at *
 refine aD Proofs.Tryz.func135 ?_;refine cV 1 ?_
 ((repeat (first|refine bJ ?_ | refine eg ?_ | refine dO ?_ | refine dH ?_));refine bZ ?_)
 (first|refine aC (kF 3 1 0 O O ?_)|refine aC (kE 3 1 0 O O ?_))
 refine H ?_;rw[hcv];refine D ?_ ?_<;>intro h
 .have:=bk h;omega
 clear h;refine H ?_;refine ai (fun q:List UInt16 × Nat=>q.2<18446744073709551616/\aJ n.toNat=q.1++aJ q.2) (fun q=>[(0,I n),(2,.ptr 2 1 0 0),(3,.als 3 (q.1.length+1) 0 (q.1.map eD).length),(4,.int .u64 (q.2:Nat))])
  (fun q=>[(2,1,⟨39,2,[[.bool false,.nil]],2⟩),(3,q.1.length+1,⟨3,1,q.1.map eD,0⟩)]) (fun q=>q.2) ([],n.toNat) ⟨by simp only;omega,O⟩ ah ?_
 rintro⟨L,u⟩ s ⟨hu,hL⟩;simp only at hu hL;dsimp only;have hLl:L.length<=4:=by rw[hL]at hnl;simp at hnl;omega
 refine D ?_ ?_<;>intro h
 .have hu0:0<u:=cw h;clear h;have hst:=vY hL hu0;have hr:IntKind.i64.wrap (Int.tmod ((u:Nat):Int) 65536)=((UInt16.ofNat u).toNat:Int):=by rw[uH,wrap_i64]<;>(have:=cq (UInt16.ofNat u);omega)
  have hq:IntKind.u64.wrap (Int.tdiv ((u:Nat):Int) 65536)=((u/65536:Nat):Int):=by rw[uF,wrap_u64]<;>omega
  refine H ?_;refine ci O O (QOp.v O (show ¬(65536:Int)=0 by decide)) ?_;refine H ?_;rw[hr];refine aC (bb 0 O O O O O O O O O O O ah O ?_);refine H ?_;refine aC (bO 0 O O O O O O O O O O O ah fW O O aS aS ?_);refine H ?_;refine ci O O (QOp.v O (show ¬(65536:Int)=0 by decide)) ?_;rw[hq];refine H ?_;refine⟨(L++[UInt16.ofNat u],u/65536),⟨by simp only;omega,hst⟩,by simp only;omega,O,O,?_,O,O,?_,bh⟩
  .exact og 3 L (UInt16.ofNat u)
  .exact lR 3 1 0 L (UInt16.ofNat u)
 .have hu0:u=0:=co h;clear h;subst hu0;rw[cW,cu]at hL;rw[hL]at hm
  (refine cV 8 ?_;refine aR 3 ?_)
  iterate 2 refine iQ O ?_
  rw[hlt];refine iQ O ?_;refine bJ ?_;refine br O (gF (Ghost.takeF (enc:=eD) (t:=23) (L) O O (O) O (fun _=>rfl)) ?_)
  (refine oX (gC O (hm) O ?_ O) ?_;.repeat' constructor)
  refine aT ?_;exact cA
theorem K6 (a:RI)(ha:a.l.length<=800000000):aU 210 [.agg (eI a)] (.agg (eI (di (-a.val)))):=by
 have hr:=jO a.l J;have hm:=i7 (!a.neg) (bN a.l) (by have:=dy a.l;omega) (jA _);rw[fF,show iP (!a.neg) (nv a.l) = -a.val by rw[a.val_sgz];cases a.neg<;>simp[iP]]at hm;generalize di (-a.val)=Z,bN a.l=T at *
 obtain⟨an,al⟩:=a;simp only at *
 refine aD Proofs.Tryz.func210 ?_;refine cX 7 [3,4,5,6,7,8,9] ?_;refine G hr ?_;refine G hm ?_;exact cA
theorem Im (a:RI)(ha:a.l.length<=800000000):aU 67 [.agg (eI a)] (I (rS a.val)):=by
 have ht:=jO a.l J;have hm:((bN a.l).map eD).length=(bN a.l).length:=ap;have h0:=sU (l:=a.l);have hz:=a.val_zero;have hv:a.val=if a.neg then -(nv a.l:Int) else(nv a.l:Int):=O
 generalize bN a.l=T at *
 obtain⟨an,al⟩:=a;simp only at *
 refine aD Proofs.Tryz.func67 ?_;refine G ht ?_;refine D ?_ ?_<;>intro h
 .have h1:nv al=0:=h0.1 (by have:=bk h;omega);rw[rS,if_pos (hz.2 h1)];exact cB
 .have h1:nv al≠0:=by
   intro h1;have h2:=bS h;have:=h0.2 h1;omega
  rw[rS,if_neg (fun h=>h1 (hz.1 h))];clear h;cases an
  .rw[if_neg (by rw[hv];simp only[eu,if_false];omega)];exact cB
  .rw[if_pos (by rw[hv];simp only[if_true];omega)];exact cB
theorem kM (a b:RI)(ha:a.l.length<=300000000)(hb:b.l.length<=300000000):aU 66 [.agg (eI a),.agg (eI b)] (.agg (eI (di (a.val*b.val)))):=by
 have e:a.val*b.val=iP (a.neg != b.neg) (nv a.l*nv b.l):=by
  rw[a.val_sgz,b.val_sgz];cases a.neg<;>cases b.neg<;>simp[iP,Int.neg_mul,Int.mul_neg]
 rw[e];have hta:=jO a.l J;have htb:=jO b.l J;have hla:=dy a.l;have hlb:=dy b.l;have ht:=qg (bN a.l) (bN b.l) J J;rw[fF,fF]at ht;have hs:=i7 (a.neg != b.neg) (aJ (nv a.l*nv b.l)) (by
  have:=ec (jT (dV a.l) (dV b.l));omega) (cU _)
 rw[bi]at hs;obtain⟨an,al⟩:=a;obtain⟨bn,bl⟩:=b;simp only at *
 generalize bN al=A,bN bl=B,aJ (nv al*nv bl)=C,di (iP (an != bn) (nv al*nv bl))=X at *
 refine aD Proofs.Tryz.func66 ?_;refine cX 13 [5,6,7,8,9,10,11,12,13,14,15,16,17] ?_;refine G hta ?_;refine G htb ?_;refine G ht ?_;refine G hs ?_;exact cA
theorem KT (a b:RI)(ha:a.l.length<=300000000)(hb:b.l.length<=300000000):aU 65 [.agg (eI a),.agg (eI b)] (.agg (eI (di (a.val+b.val)))):=by
 have hta:=jO a.l J;have htb:=jO b.l J;have hla:=dy a.l;have hlb:=dy b.l;have hA:=jA a.l;have hB:=jA b.l;have hnA:=fF a.l;have hnB:=fF b.l;rw[a.val_sgz,b.val_sgz];obtain⟨an,al⟩:=a;obtain⟨bn,bl⟩:=b;simp only at *
 rw[<-hnA,<-hnB];generalize bN al=A,bN bl=B at *
 have hp:=Ik A B J J;have hcm:=rx A B J J;have hcs:=(ko hA hB).1;have hlA:=fS A;have hlB:=fS B;have hlp:(aJ (nv A+nv B)).length<=900000000:=by
  have:=Bf (n:=400000000) (A:=A) (B:=B) J J;omega
 by_cases hs:an=bn
 .subst hs;have hd:=i7 an (aJ (nv A+nv B)) hlp (cU _);rw[bi]at hd;have e:iP an (nv A)+iP an (nv B)=iP an (nv A+nv B):=by cases an<;>simp only[iP,eu,if_false,if_true]<;>omega
  rw[e];generalize aJ (nv A+nv B)=C,di (iP an (nv A+nv B))=X at *
  refine aD Proofs.Tryz.func65 ?_;refine cX 8 [7,8,9,10,11,12,5,6] ?_;refine G hta ?_;refine G htb ?_;refine D ?_ ?_<;>intro h
  .clear h;refine cX 6 [18,19,20,21,22,23] ?_;refine G hp ?_;refine G hd ?_;exact cA
  .exfalso;simp at h
 .have hmA:nv B<=nv A->aU 140 [.sl (A.map eD),.sl (B.map eD)] (.sl ((aJ (nv A-nv B)).map eD)):=qd A B J J;have hmB:nv A<=nv B->aU 140 [.sl (B.map eD),.sl (A.map eD)] (.sl ((aJ (nv B-nv A)).map eD)):=qd B A J J;have hlm:(aJ (nv A-nv B)).length<=900000000:=by have:=ig (Nat.sub_le (nv A) (nv B));omega
  have hlm2:(aJ (nv B-nv A)).length<=900000000:=by have:=ig (Nat.sub_le (nv B) (nv A));omega
  have hdA:=i7 an (aJ (nv A-nv B)) hlm (cU _);have hdB:=i7 bn (aJ (nv B-nv A)) hlm2 (cU _);rw[bi]at hdA hdB;have eA:nv B<=nv A->iP an (nv A)+iP bn (nv B)=iP an (nv A-nv B):=by intro h;cases an<;>cases bn<;>simp_all only [iP,eu,if_false,if_true,not_true_eq_false,reduceCtorEq,not_false_eq_true]<;>omega
  have eB:nv A<=nv B->iP an (nv A)+iP bn (nv B)=iP bn (nv B-nv A):=by intro h;cases an<;>cases bn<;>simp_all only [iP,eu,if_false,if_true,not_true_eq_false,reduceCtorEq,not_false_eq_true]<;>omega
  generalize iP an (nv A)+iP bn (nv B)=Z,aJ (nv A-nv B)=C,aJ (nv B-nv A)=D0 at *
  generalize hX:di (iP an (nv A-nv B))=X at *
  generalize hY:di (iP bn (nv B-nv A))=Y0 at *
  refine aD Proofs.Tryz.func65 ?_;refine cX 8 [7,8,9,10,11,12,5,6] ?_;refine G hta ?_;refine G htb ?_;refine D ?_ ?_<;>intro h
  .exfalso;simp at h;exact hs h
  .clear h;refine ax hcm ?_;refine D ?_ ?_<;>intro h
   .have hge:nv B<=nv A:=by
     have h1:=bk h;omega
    clear h;refine cX 6 [28,29,30,31,32,33] ?_;refine G (hmA hge) ?_;refine G hdA ?_;refine H ?_;exact DU O ah O ah (by rw[eA hge,hX];rfl)
   .have hge:nv A<=nv B:=by
     have h1:=bS h;omega
    clear h;refine cX 6 [34,35,36,37,38,39] ?_;refine G (hmB hge) ?_;refine G hdB ?_;refine H ?_;exact DU O ah O ah (by rw[eB hge,hY];rfl)
theorem Ce (z:Int):ofQ ((z:Rat))=⟨di z,di 1⟩:=by
 rw[ofQ,Rat.num_intCast,Rat.den_intCast];rfl
theorem Ax (q:Rat):ofQ q=⟨di q.num,di (q.den:Int)⟩:=by
 rw[ofQ,di,di];congr 2
theorem mO (a b:RI)(ha:a.l.length<=90000000)(hb:b.l.length<=90000000):aU 64 [.agg (eI a),.agg (eI b)] (.agg (eR (ofQ ((a.val:Rat)/(b.den:Rat))))):=by
 have hta:=jO a.l J;have htb:=jO b.l J;have hla:=dy a.l;have hlb:=dy b.l;have hb0:=sU (l:=b.l);have hAn:=fF a.l;have hBn:=fF b.l;have hAt:=jA a.l;have hBt:=jA b.l;have h1:=NF 1 Y Y;by_cases h0:nv b.l=0
 .have e:ofQ ((a.val:Rat)/(b.den:Rat))=⟨di a.val,di 1⟩:=by
   rw[RI.den,if_pos h0,<-Ce];congr 1;rw[show((1:Int):Rat)=1 from O];grind
  rw[e];have hm:=i7 a.neg (bN a.l) J hAt;rw[hAn,<-a.val_sgz]at hm;have hz:bN b.l=[]:=by rw[bN,h0,cW]
  rw[hz]at htb;generalize di a.val=X,di 1=Y0,bN a.l=A at *
  obtain⟨an,al⟩:=a;obtain⟨bn,bl⟩:=b;simp only at *
  refine aD Proofs.Tryz.func64 ?_;refine cX 8 [12,13,14,15,16,17,5,6] ?_;refine G hta ?_;refine G htb ?_;refine G hm ?_;refine G h1 ?_;exact cA
 .have hbp:0<nv b.l:=mB h0;rw[RI.den,if_neg h0,Cf a b h0];have hg:=K3 (bN a.l) (bN b.l) J J hAt hBt;rw[hAn,hBn]at hg;have hgp:0<Nat.gcd (nv a.l) (nv b.l):=zI _ hbp;have hgl:Nat.gcd (nv a.l) (nv b.l)<=nv b.l:=Nat.gcd_le_right _ hbp;have hgs:(aJ (Nat.gcd (nv a.l) (nv b.l))).length<=90000000:=by
   have:=mD (L:=b.l) hgl;omega
  generalize Nat.gcd (nv a.l) (nv b.l)=g at *
  have d1:=sJ (bN a.l) (aJ g) J J (by rw[bi];omega);have d2:=sJ (bN b.l) (aJ g) J J (by rw[bi];omega);rw[Rs,bi,hAn]at d1;rw[Rs,bi,hBn]at d2;have m1:=i7 (a.neg != b.neg) (aJ (nv a.l/g)) (by have:=mD (L:=a.l) (jr (nv a.l) g);omega) (cU _);have m2:=i7 false (aJ (nv b.l/g)) (by have:=mD (L:=b.l) (jr (nv b.l) g);omega) (cU _);rw[bi]at m1 m2;have hbl:¬((bN b.l).length=0):=fun h=>h0 (hb0.1 h);have hbm:((bN b.l).map eD).length=(bN b.l).length:=ap;generalize di (iP (a.neg != b.neg) (nv a.l/g))=X,di (iP false (nv b.l/g))=Y0,aJ (nv a.l/g)=A2,aJ (nv b.l/g)=B2,aJ (nv a.l%g)=A3,aJ (nv b.l%g)=B3,aJ g=G0,bN a.l=A,bN b.l=B at *
  obtain⟨an,al⟩:=a;obtain⟨bn,bl⟩:=b;simp only at *
  refine aD Proofs.Tryz.func64 ?_;refine cX 8 [12,13,14,15,16,17,5,6] ?_;refine G hta ?_;refine G htb ?_;refine D ?_ ?_<;>intro h
  .exact absurd (by have:=bk h;omega) hbl
  clear h;refine G hg ?_;refine G d1 ?_;refine G d2 ?_;refine G m1 ?_;refine G m2 ?_;exact cA
theorem eG (x:RR)(hn:x.n.l.length<=90000000)(hd:x.d.l.length<=90000000):aU 63 [.agg (eR x)] (.agg (eR (ofQ x.val))):=by
 have h:=mO x.n x.d hn hd;rw[show(x.n.val:Rat)/(x.d.den:Rat)=x.val from O]at h;generalize ofQ x.val=X at *
 refine aD Proofs.Tryz.func63 ?_;refine G h ?_;exact cA
theorem jh (q:Rat):(ofQ q).n.val=q.num:=c_ _
theorem gz (q:Rat):(ofQ q).d.val=(q.den:Int):=by rw[Ax];exact c_ _
theorem Ig (x:RR){p:Rat}{n:Nat}[hx:Vq x p n](hn:n<=50000000):aU 142 [.agg (eR x)] (.agg (eR (ofQ (-p)))):=by
 have h1:=hx.sz;have hh:=hx.hq;have hl:=gS hh.ok;have hnm:=eG x J J;rw[hx.val]at hnm;have hng:=K6 (ofQ p).n J;rw[jh]at hng;have e:ofQ (-p)=⟨di (-p.num),(ofQ p).d⟩:=by rw[Ax,Ax];simp
 rw[e];generalize di (-p.num)=Z,ofQ p=P at *
 refine aD Proofs.Tryz.func142 ?_;refine G hnm ?_;refine cX 6 [6,7,8,9,10,11] ?_;refine G hng ?_;exact cA
theorem NA (q:Rat):nv (ofQ q).d.l≠0:=by
 have:=gz q;have h2:=(ofQ q).d.val_abs;rw[this]at h2;have:=q.den_pos;omega
theorem r5 {a:RI}(h:nv a.l≠0):a.den=a.val:=by rw[RI.den,if_neg h]
theorem b9 (x y:RR){p q:Rat}{n m:Nat}[hx:Vq x p n][hy:Vq y q m](hn:n<=20000000)(hm:m<=20000000):aU 91 [.agg (eR x),.agg (eR y)] (.agg (eR (ofQ (p*q)))):=by
 have h1:=hx.sz;have h2:=hy.sz;have l1:=gS hx.hq.ok;have l2:=gS hy.hq.ok;have n1:=eG x J J;have n2:=eG y J J;rw[hx.val]at n1;rw[hy.val]at n2;have m1:=kM (ofQ p).n (ofQ q).n J J;have m2:=kM (ofQ p).d (ofQ q).d J J;have k1:=eQ (ofQ p).n (ofQ q).n;have k2:=eQ (ofQ p).d (ofQ q).d;have m3:=mO (di ((ofQ p).n.val*(ofQ q).n.val)) (di ((ofQ p).d.val*(ofQ q).d.val)) J J;have hne:nv (di ((ofQ p).d.val*(ofQ q).d.val)).l≠0:=by
  rw[tm,bi,gz,gz,js];have:=mt p.den_pos q.den_pos;simp only[gV];omega
 rw[r5 hne,c_,c_,jh,jh,gz,gz,<-AG,<-jl,<-jl]at m3;rw[jh,jh]at m1;rw[gz,gz]at m2;generalize di (p.num*q.num)=Z1,di ((p.den:Int)*(q.den:Int))=Z2,ofQ (p*q)=R,ofQ p=P,ofQ q=Q at *
 refine aD Proofs.Tryz.func91 ?_;refine H ?_;refine a_ [(4,5),(5,6),(6,5),(7,6)] aH aH ?_;refine G n1 ?_;refine G n2 ?_;refine cX 11 [11,12,13,14,15,16,17,18,19,20,21] ?_;refine G m1 ?_;refine G m2 ?_;refine G m3 ?_;exact cA
theorem iN (x y:RR){p q:Rat}{n m:Nat}[hx:Vq x p n][hy:Vq y q m](hn:n<=20000000)(hm:m<=20000000)(h0:q≠0):aU 61 [.agg (eR x),.agg (eR y)] (.agg (eR (ofQ (p/q)))):=by
 have h1:=hx.sz;have h2:=hy.sz;have l1:=gS hx.hq.ok;have l2:=gS hy.hq.ok;have n1:=eG x J J;have n2:=eG y J J;rw[hx.val]at n1;rw[hy.val]at n2;have m1:=kM (ofQ p).n (ofQ q).d J J;have m2:=kM (ofQ p).d (ofQ q).n J J;have k1:=eQ (ofQ p).n (ofQ q).d;have k2:=eQ (ofQ p).d (ofQ q).n;have m3:=mO (di ((ofQ p).n.val*(ofQ q).d.val)) (di ((ofQ p).d.val*(ofQ q).n.val)) J J;have hne:nv (di ((ofQ p).d.val*(ofQ q).n.val)).l≠0:=by
  rw[tm,bi,gz,jh,js];have hq:q.num≠0:=fun h=>h0 (Rat.num_eq_zero.1 h);have:=mt p.den_pos (show 0<q.num.natAbs by omega);simp only[gV];omega
 rw[r5 hne,c_,c_,jh,jh,gz,gz,<-AF,<-jl,<-jl]at m3;rw[jh,gz]at m1;rw[gz,jh]at m2;generalize di (p.num*(q.den:Int))=Z1,di ((p.den:Int)*q.num)=Z2,ofQ (p/q)=R,ofQ p=P,ofQ q=Q at *
 refine aD Proofs.Tryz.func61 ?_;refine H ?_;refine a_ [(4,5),(5,6),(6,5),(7,6)] aH aH ?_;refine G n1 ?_;refine G n2 ?_;refine cX 11 [11,12,13,14,15,16,17,18,19,20,21] ?_;refine G m1 ?_;refine G m2 ?_;refine G m3 ?_;exact cA
theorem b8 (x y:RR){p q:Rat}{n m:Nat}[hx:Vq x p n][hy:Vq y q m](hn:n<=20000000)(hm:m<=20000000):aU 22 [.agg (eR x),.agg (eR y)] (.agg (eR (ofQ (p+q)))):=by
 have h1:=hx.sz;have h2:=hy.sz;have l1:=gS hx.hq.ok;have l2:=gS hy.hq.ok;have n1:=eG x J J;have n2:=eG y J J;rw[hx.val]at n1;rw[hy.val]at n2;have m1:=kM (ofQ p).n (ofQ q).d J J;have m2:=kM (ofQ q).n (ofQ p).d J J;have m4:=kM (ofQ p).d (ofQ q).d J J;have k1:=eQ (ofQ p).n (ofQ q).d;have k2:=eQ (ofQ q).n (ofQ p).d;have k4:=eQ (ofQ p).d (ofQ q).d;have m5:=KT (di ((ofQ p).n.val*(ofQ q).d.val)) (di ((ofQ q).n.val*(ofQ p).d.val)) J J;have k5:=Ch (di ((ofQ p).n.val*(ofQ q).d.val)) (di ((ofQ q).n.val*(ofQ p).d.val)) (n:=50000000) J J;rw[c_,c_]at m5 k5;have m3:=mO (di ((ofQ p).n.val*(ofQ q).d.val+(ofQ q).n.val*(ofQ p).d.val)) (di ((ofQ p).d.val*(ofQ q).d.val)) J J;have hne:nv (di ((ofQ p).d.val*(ofQ q).d.val)).l≠0:=by
  rw[tm,bi,gz,gz,js];have:=mt p.den_pos q.den_pos;simp only[gV];omega
 rw[r5 hne,c_,c_,jh,jh,gz,gz,<-AE _ _ _ _ (fw p) (fw q),<-jl,<-jl]at m3;rw[jh,gz]at m1;rw[jh,gz]at m2;rw[gz,gz]at m4;rw[jh,jh,gz,gz]at m5;generalize di (p.num*(q.den:Int)+q.num*(p.den:Int))=Z5,di (p.num*(q.den:Int))=Z1,di (q.num*(p.den:Int))=Z2,di ((p.den:Int)*(q.den:Int))=Z4,ofQ (p+q)=R,ofQ p=P,ofQ q=Q at *
 refine aD Proofs.Tryz.func22 ?_;refine H ?_;refine a_ [(4,5),(5,6),(6,5),(7,6)] aH aH ?_;refine G n1 ?_;refine G n2 ?_;refine cX 17 [11,12,13,14,15,16,17,18,19,20,21,22,23,24,25,26,27] ?_;refine G m1 ?_;refine G m2 ?_;refine G m5 ?_;refine G m4 ?_;refine G m3 ?_;exact cA
theorem iO (x y:RR){p q:Rat}{n m:Nat}[hx:Vq x p n][hy:Vq y q m](hn:n<=10000000)(hm:m<=10000000):aU 68 [.agg (eR x),.agg (eR y)] (.agg (eR (ofQ (p-q)))):=by
 have h1:=Ig y J;have vn:Vq (ofQ (-q)) (-q) (m+1):=Vq.ofQ (h:=@HQ.neg _ _ hy.hq);have h2:=b8 x (ofQ (-q)) (hy:=vn) J J;rw[<-mA]at h2;generalize ofQ (-q)=Y0,ofQ (p-q)=X at *
 refine aD Proofs.Tryz.func68 ?_;refine cX 4 [5,6,7,8] ?_;refine G h1 ?_;refine G h2 ?_;exact cA
theorem NK (p:Rat):rS p.num=sgn p:=by
 have h1:(ofQ p).val=p:=ofQ_val p;have h2:=GE (ofQ p);rw[h1,jh]at h2;have h3:(dn (ofQ p)).val=(p.den:Int):=by rw[dn,if_neg (NA p),gz]
 rw[h3]at h2;rw[h2];have:=p.den_pos;have h4:rS (p.den:Int)=1:=by unfold rS;split<;>(try split)<;>omega
 rw[h4];omega
theorem gD (x:RR){p:Rat}{n:Nat}[hx:Vq x p n](hn:n<=50000000):aU 23 [.agg (eR x)] (I (sgn p)):=by
 have h1:=hx.sz;have hl:=gS hx.hq.ok;have hnm:=eG x J J;rw[hx.val]at hnm;have hs:=Im (ofQ p).n J;rw[jh,NK]at hs;generalize sgn p=g,ofQ p=P at *
 obtain⟨Pn,Pd⟩:=P;simp only at *
 refine aD Proofs.Tryz.func23 ?_;refine G hnm ?_;refine ax hs ?_;exact cB
theorem jv (x y:RR){p q:Rat}{n m:Nat}[hx:Vq x p n][hy:Vq y q m](hn:n<=10000000)(hm:m<=10000000):aU 24 [.agg (eR x),.agg (eR y)] (I (sgn (p-q))):=by
 have h1:=iO x y hn hm;have vs:Vq (ofQ (p-q)) (p-q) (n+1+(m+1)+1):=Vq.ofQ (h:=@HQ.sub _ _ _ _ hx.hq hy.hq);have h2:=gD (ofQ (p-q)) (hx:=vs) J;generalize ofQ (p-q)=X,sgn (p-q)=g at *
 refine aD Proofs.Tryz.func24 ?_;refine G h1 ?_;refine ax h2 ?_;exact cB
def gA (x:Rat):Rat:=if 0<x then x else 0
def v_ (x y:Rat):Rat:=if y<x then y else x
def cQ (M:Nat->Rat):Nat->Rat
 |0=>0
 |k+1=>M k
def fZ (S M:Nat->Rat)(y:Rat)(k:Nat):Rat:=if y-S k<0 then 0 else(M k-cQ M k)*(y-S k)
def je (S:Nat->Rat)(n:Nat)(y:Rat)(k:Nat):Rat:=if k+1<n then v_ y (S (k+1)) else y
def dq (S M:Nat->Rat)(n:Nat)(y:Rat)(k:Nat):Rat:=M k*gA (je S n y k-S k)
theorem sB {S M:Nat->Rat}{y:Rat}(k:Nat):fZ S M y k=(M k-cQ M k)*gA (y-S k):=by
 rw[fZ,gA];grind
theorem yA (S M:Nat->Rat)(y:Rat):∀(k n:Nat),(∀i,i<k->S i<S (i+1))->k<n->aq (fZ S M y) (k+1)=aq (dq S M n y) k+M k*gA (y-S k)
 |0,n,_,_=>by
  rw[aq,aq,aq,sB,cQ];grind
 |k+1,n,h,hk=>by
  have ih:=yA S M y k n (fun i hi=>h i J) J;have hs:=h k J;rw[aq,ih,sB,cQ,aq,dq,je,if_pos hk];have key:gA (y-S k)=gA (v_ y (S (k+1))-S k)+gA (y-S (k+1)):=by
   simp only[gA,v_];grind
  rw[key];grind
theorem kK {S M:Nat->Rat}{y:Rat}{n:Nat}(h:∀i,i+1<n->S i<S (i+1)):aq (fZ S M y) n=aq (dq S M n y) n:=by
 cases n with
 |zero=>rfl
 |succ k =>
  rw[yA S M y k (k+1) (fun i hi=>h i J) J];rw[aq,dq,je,if_neg J]
theorem uM {f g:Nat->Rat}:∀ {n:Nat},(∀k,k<n->f k<=g k)->aq f n<=aq g n
 |0,_=>eP
 |n+1,h=>by
  have h1:=uM (n:=n) fun k hk=>h k J;have h2:=h n J;rw[aq,aq];grind
theorem wW {f g:Nat->Rat}:∀ {n:Nat},aq (fun k=>f k+g k) n=aq f n+aq g n
 |0=>by rw[aq,aq,aq];grind
 |n+1=>by rw[aq,aq,aq,wW];grind
theorem nY {f:Nat->Rat}{c:Rat}:∀ {n:Nat},aq (fun k=>f k*c) n=aq f n*c
 |0=>by rw[aq,aq];grind
 |n+1=>by rw[aq,aq,nY];grind
theorem yS {f:Nat->Rat}:∀ {n:Nat},(∀k,k<n->f k=0)->aq f n=0
 |0,_=>rfl
 |n+1,h=>by rw[aq,yS fun k hk=>h k J,h n J];grind
theorem rI {f:Nat->Rat}:∀ {n i:Nat},(∀k,k<n->0<=f k)->i<n->f i<=aq f n
 |0,_,_,hi=>by omega
 |n+1,i,h,hi=>by
  have h0:=lr (f:=f) (n:=n) fun k hk=>h k J;rw[aq];by_cases he:i=n
  .subst he;grind
  .have:=rI (f:=f) (n:=n) (i:=i) (fun k hk=>h k J) J;have:=h n J;grind
theorem LW {f:Nat->Rat}{n:Nat}(h:0<aq f n)(h0:∀k,k<n->0<=f k):∃k,k<n/\0<f k:=by
 by_cases hx:∃k,k<n/\0<f k
 .exact hx
 .have:aq f n=0:=yS fun k hk=>by
   have h1:=h0 k hk;have h2:¬0<f k:=fun h=>hx ⟨k,hk,h⟩;grind
  rw[this]at h;exact absurd h bP
structure Crv (n:Nat) (S M:Nat->Rat):Prop where
 asc:∀k,k+1<n->S k<S (k+1)
 nn:∀k,k<n->0<=M k
def kR (n:Nat)(S M:Nat->Rat)(y:Rat):Rat:=aq (fZ S M y) n
def oW (S M:Nat->Rat)(p:Nat):Rat:=aq (fun k=>(M k-cQ M k)*S k) p
def InL (n:Nat)(S:Nat->Rat)(p:Nat)(y:Rat):Prop:=p<=n/\(∀k,p=k+1->S k<y)/\(p<n->y<=S p)
def I2 (n:Nat)(S:Nat->Rat)(p:Nat)(y:Rat):Prop:=p<=n/\(∀k,p=k+1->S k<=y)/\(p<n->y<=S p)
section
variable {n:Nat}{S M:Nat->Rat}{y:Rat}{p:Nat}
theorem InL.c (h:InL n S p y):I2 n S p y:=⟨h.1,fun k hk=>by have:=h.2.1 k hk;grind,h.2.2⟩
theorem Crv.mono_st (h:Crv n S M):∀ {j i:Nat},i<=j->j<n->S i<=S j
 |0,i,h1,_=>by
  have:i=0:=J;subst this;exact eP
 |j+1,i,h1,h2=>by
  by_cases he:i=j+1
  .subst he;exact eP
  .have:=h.mono_st (j:=j) (i:=i) J J;have:=h.asc j J;grind
theorem InL.some (h:Crv n S M)(y:Rat):∀(m:Nat),m<=n->∃p,p<=m/\(∀k,p=k+1->S k<y)/\(p<m->y<=S p)
 |0,_=>⟨0,aY,fun k hk=>by omega,fun hk=>by omega⟩
 |m+1,hm=>by
  by_cases hy:S m<y
  .exact⟨m+1,aY,fun k hk=>by
    have:k=m:=J
    subst this;exact hy,fun hk=>by omega⟩
  .obtain⟨p,h1,h2,h3⟩:=InL.some h y m J;refine⟨p,J,h2,fun _=>?_⟩;by_cases hp:p<m
   .exact h3 hp
   .have:p=m:=J;subst this;grind
theorem InL.get (h:Crv n S M)(y:Rat):∃p,InL n S p y:=InL.some h y n (aY)
theorem ym:∀(p:Nat),aq (fun k=>(M k-cQ M k)*(y-S k)) p=cQ M p*y-oW S M p
 |0=>by rw[aq,oW,aq,cQ];grind
 |p+1=>by rw[aq,ym p,oW,oW,aq,cQ];grind
theorem sY (h:Crv n S M)(hp:I2 n S p y):kR n S M y=cQ M p*y-oW S M p:=by
 obtain⟨h1,h2,h3⟩:=hp;rw[<-ym,kR];have key:∀m,p+m<=n->aq (fZ S M y) (p+m)=aq (fun k=>(M k-cQ M k)*(y-S k)) p:=by
  intro m
  induction m with
  |zero =>
   intro _;refine eX fun k hk=>?_;have:S k<=y:=by
    cases p with
    |zero=>omega
    |succ p =>
     have:=h2 p O;have:=h.mono_st (i:=k) (j:=p) J J;grind
   rw[fZ,if_neg bP]
  |succ m ih =>
   intro hm;rw[Nat.add_succ,aq,ih J,fZ];have h4:=h3 J;have h5:=h.mono_st (i:=p) (j:=p+m) J J;split
   .grind
   .have:y-S (p+m)=0:=bP;rw[this];grind
 have:=key (n-p) J;rwa [show p+(n-p)=n by omega]at this
theorem Jb (h:Crv n S M)(hp:p<=n):0<=cQ M p:=by
 cases p with
 |zero=>rw[cQ];exact eP
 |succ p=>exact h.nn p J
theorem Ns (x:Rat):0<=gA x:=by rw[gA];grind
theorem HY {x z:Rat}(h:x<=z):gA x<=gA z:=by simp only[gA];grind
theorem QY (h:Crv n S M):0<=kR n S M y:=by
 rw[kR,kK h.asc];refine lr fun k hk=>?_;rw[dq];exact j8 (h.nn k hk) (Ns _)
theorem rM (h:Crv n S M){x z:Rat}(hx:x<=z):kR n S M x<=kR n S M z:=by
 rw[kR,kR,kK h.asc,kK h.asc];refine uM fun k hk=>?_;rw[dq,dq];refine FS (HY ?_) (h.nn k hk);have:je S n x k<=je S n z k:=by
  simp only[je,v_];grind
 grind
def xw (n:Nat)(S M:Nat->Rat):Rat:=oW S M n*(-1)
theorem xi (h:Crv n S M)(hl:I2 n S n y)(h0:cQ M n=0):kR n S M y=xw n S M:=by
 rw[sY h hl,h0,xw];grind
theorem IJ (h:Crv n S M)(hl:I2 n S 0 y):kR n S M y=0:=by
 rw[sY h hl,cQ,oW,aq];grind
end
structure Bd where
 N:Nat
 X:Nat->Rat
 C:Nat->Rat
 n:Nat->Nat
 S:Nat->Nat->Rat
 M:Nat->Nat->Rat
 w:Rat
 A:Rat
structure Bd.Ok (b:Bd):Prop where
 crv:∀i,i<b.N->Crv (b.n i) (b.S i) (b.M i)
 pos:0<b.w
namespace Bd
variable {b:Bd}
def y (b:Bd)(z t:Rat)(i:Nat):Rat:=b.C i+(z+t*b.X i)
def f (b:Bd)(z t:Rat)(i:Nat):Rat:=kR (b.n i) (b.S i) (b.M i) (b.y z t i)
def F (b:Bd)(z t:Rat):Rat:=aq (b.f z t) b.N
def G0 (b:Bd)(z t:Rat):Rat:=aq (fun i=>b.f z t i*b.X i) b.N
def e (b:Bd)(z t:Rat):Rat:=b.G0 z t-b.w*b.A
def Least (b:Bd)(z t:Rat):Prop:=b.F z t=b.w/\∀z',z'<z->b.F z' t<b.w
def Bal (b:Bd)(z t:Rat):Prop:=b.F z t=b.w/\b.G0 z t=b.w*b.A
theorem PS (h:b.Ok){z z' t:Rat}(hz:z<=z'){i:Nat}(hi:i<b.N):b.f z t i<=b.f z' t i:=rM (h.crv i hi) (by rw[y,y];grind)
theorem Pt (h:b.Ok){z z' t:Rat}(hz:z<=z'):b.F z t<=b.F z' t:=uM fun _ hi=>PS h hz hi
theorem f_nn (h:b.Ok){z t:Rat}{i:Nat}(hi:i<b.N):0<=b.f z t i:=QY (h.crv i hi)
theorem Md (h:b.Ok)(z t z' t':Rat){i:Nat}(hi:i<b.N):0<=(b.f z t i-b.f z' t' i)*(b.y z t i-b.y z' t' i):=by
 have hc:=h.crv i hi;by_cases hy:b.y z t i<=b.y z' t' i
 .have h1:=rM hc hy;have:(b.f z t i-b.f z' t' i)*(b.y z t i-b.y z' t' i)=(b.f z' t' i-b.f z t i)*(b.y z' t' i-b.y z t i):=bP;rw[this];exact Rat.mul_nonneg (by rw[f,f];grind) bP
 .have h1:=rM hc (x:=b.y z' t' i) (z:=b.y z t i) bP;exact Rat.mul_nonneg (by rw[f,f];grind) bP
theorem Oi (b:Bd)(z t z' t':Rat):aq (fun i=>(b.f z t i-b.f z' t' i)*(b.y z t i-b.y z' t' i)) b.N=(b.F z t-b.F z' t')*(z-z')+(b.G0 z t-b.G0 z' t')*(t-t'):=by
 have key:∀n,aq (fun i=>(b.f z t i-b.f z' t' i)*(b.y z t i-b.y z' t' i)) n=(aq (b.f z t) n-aq (b.f z' t') n)*(z-z')+(aq (fun i=>b.f z t i*b.X i) n-aq (fun i=>b.f z' t' i*b.X i) n)*(t-t'):=by
  intro n
  induction n with
  |zero=>simp only[aq];grind
  |succ n ih =>
   simp only[aq];rw[ih,y,y];grind
 exact key b.N
theorem CW (h:b.Ok){z t z' t':Rat}(hF:b.F z t=b.F z' t')(hG:b.G0 z t=b.G0 z' t'\/t=t'){i:Nat}(hi:i<b.N):b.f z t i=b.f z' t' i:=by
 have h0:aq (fun i=>(b.f z t i-b.f z' t' i)*(b.y z t i-b.y z' t' i)) b.N=0:=by
  rw[Oi,hF];rcases hG with hG|ht
  .rw[hG];grind
  .rw[ht];grind
 have h1:=rI (f:=fun i=>(b.f z t i-b.f z' t' i)*(b.y z t i-b.y z' t' i)) (n:=b.N) (i:=i) (fun k hk=>Md h z t z' t' hk) hi;rw[h0]at h1;have h2:=Md h z t z' t' hi;have h3:(b.f z t i-b.f z' t' i)*(b.y z t i-b.y z' t' i)=0:=bP;rcases Rat.mul_eq_zero.1 h3 with h4|h4
 .grind
 .rw[f,f,show b.y z t i=b.y z' t' i by grind]
theorem Lh (h:b.Ok){z t z':Rat}(hF:b.F z t=b.F z' t):b.G0 z t=b.G0 z' t:=eX fun i hi=>by rw[CW h hF (.inr O) hi]
def Inl (b:Bd)(p:Nat->Nat)(z t:Rat):Prop:=∀i,i<b.N->InL (b.n i) (b.S i) (p i) (b.y z t i)
def Inc (b:Bd)(p:Nat->Nat)(z t:Rat):Prop:=∀i,i<b.N->I2 (b.n i) (b.S i) (p i) (b.y z t i)
def k (b:Bd)(p:Nat->Nat)(i:Nat):Rat:=cQ (b.M i) (p i)
def o (b:Bd)(p:Nat->Nat)(i:Nat):Rat:=oW (b.S i) (b.M i) (p i)
def Kh (b:Bd)(p:Nat->Nat):Rat:=aq (b.k p) b.N
def Kc (b:Bd)(p:Nat->Nat):Rat:=aq (fun i=>b.k p i*b.X i) b.N
def Kp (b:Bd)(p:Nat->Nat):Rat:=aq (fun i=>b.k p i*b.X i*b.X i) b.N
def Fo (b:Bd)(p:Nat->Nat):Rat:=aq (fun i=>b.k p i*b.C i-b.o p i) b.N
def Go (b:Bd)(p:Nat->Nat):Rat:=aq (fun i=>(b.k p i*b.C i-b.o p i)*b.X i) b.N
theorem Inl.c {p:Nat->Nat}{z t:Rat}(h:b.Inl p z t):b.Inc p z t:=fun i hi=>(h i hi).c
theorem FG (h:b.Ok)(z t:Rat):∃p,b.Inl p z t:=by
 have:=fun i=>dL (i<b.N);refine⟨fun i=>if hi:i<b.N then Classical.choose (InL.get (h.crv i hi) (b.y z t i)) else 0,fun i hi=>?_⟩;simp only[dif_pos hi];exact Classical.choose_spec (InL.get (h.crv i hi) (b.y z t i))
theorem f_at (h:b.Ok){p:Nat->Nat}{z t:Rat}(hp:b.Inc p z t){i:Nat}(hi:i<b.N):b.f z t i=b.k p i*b.y z t i-b.o p i:=sY (h.crv i hi) (hp i hi)
theorem F_at (h:b.Ok){p:Nat->Nat}{z t:Rat}(hp:b.Inc p z t):b.F z t=b.Kh p*z+b.Kc p*t+b.Fo p:=by
 rw[F,eX (g:=fun i=>b.k p i*b.y z t i-b.o p i) fun i hi=>f_at h hp hi];have key:∀n,aq (fun i=>b.k p i*b.y z t i-b.o p i) n=aq (b.k p) n*z+aq (fun i=>b.k p i*b.X i) n*t+aq (fun i=>b.k p i*b.C i-b.o p i) n:=by
  intro n
  induction n with
  |zero=>simp only[aq];grind
  |succ n ih=>simp only[aq];rw[ih,y];grind
 exact key b.N
theorem G_at (h:b.Ok){p:Nat->Nat}{z t:Rat}(hp:b.Inc p z t):b.G0 z t=b.Kc p*z+b.Kp p*t+b.Go p:=by
 rw[G0,eX (g:=fun i=>(b.k p i*b.y z t i-b.o p i)*b.X i) fun i hi=>by rw[f_at h hp hi]];have key:∀n,aq (fun i=>(b.k p i*b.y z t i-b.o p i)*b.X i) n=aq (fun i=>b.k p i*b.X i) n*z+aq (fun i=>b.k p i*b.X i*b.X i) n*t+aq (fun i=>(b.k p i*b.C i-b.o p i)*b.X i) n:=by
  intro n
  induction n with
  |zero=>simp only[aq];grind
  |succ n ih=>simp only[aq];rw[ih,y];grind
 exact key b.N
theorem P9 (h:b.Ok){p:Nat->Nat}{z t:Rat}(hp:b.Inc p z t){i:Nat}(hi:i<b.N):0<=b.k p i:=Jb (h.crv i hi) (hp i hi).1
theorem Hy {p:Nat->Nat}{z t:Rat}(hp:b.Inl p z t):∃d,0<d/\∀d',0<=d'->d'<=d->b.Inl p (z-d') t:=by
 have key:∀m,m<=b.N->∃d:Rat,0<d/\∀d',0<=d'->d'<=d->∀i,i<m->InL (b.n i) (b.S i) (p i) (b.y (z-d') t i):=by
  intro m
  induction m with
  |zero=>exact fun _=>⟨1,Y,fun _ _ _ i hi=>by omega⟩
  |succ m ih =>
   intro hm;obtain⟨d,h1,h2⟩:=ih J;obtain⟨g1,g2,g3⟩:=hp m J;obtain⟨d2,h3,h4⟩:∃d2:Rat,0<d2/\∀k,p m=k+1->b.S m k<b.y z t m-d2:=by
    cases hpm:p m with
    |zero=>exact⟨1,Y,fun k hk=>by omega⟩
    |succ k =>
     have:=g2 k hpm;refine⟨(b.y z t m-b.S m k)/2,bP,fun k' hk'=>?_⟩;obtain rfl:k=k':=J;grind
   refine⟨v_ d d2,by rw[v_];grind,fun d' h5 h6 i hi=>?_⟩;have h7:d'<=d/\d'<=d2:=by rw[v_]at h6;grind
   by_cases he:i<m
   .exact h2 d' h5 h7.1 i he
   .obtain rfl:i=m:=J;have hy:b.y (z-d') t i=b.y z t i-d':=by rw[y,y];grind
    refine⟨g1,fun k hk=>?_,fun hk=>?_⟩
    .have:=h4 k hk;rw[hy];grind
    .have:=g3 hk;rw[hy];grind
 obtain⟨d,h1,h2⟩:=key b.N (aY);exact⟨d,h1,fun d' h3 h4 i hi=>h2 d' h3 h4 i hi⟩
theorem Least.K (h:b.Ok){p:Nat->Nat}{z t:Rat}(hl:b.Least z t)(hp:b.Inl p z t):0<b.Kh p:=by
 obtain⟨d,h1,h2⟩:=Hy hp;have h3:=F_at h hp.c;have h4:=F_at h (h2 d bP eP).c;have h5:=hl.2 (z-d) bP;rw[h4]at h5;rw[hl.1]at h3;have h6:0<b.Kh p*d:=bP;have h7:0<=b.Kh p:=lr fun i hi=>P9 h hp.c hi;by_cases h8:b.Kh p=0
 .rw[h8]at h6;grind
 .grind
theorem Least.uniq {z z' t:Rat}(h1:b.Least z t)(h2:b.Least z' t):z=z':=by
 rcases dL (z<z') with hc|hc
 .have:=h2.2 z hc;rw[h1.1]at this;grind
 .rcases dL (z'<z) with hd|hd
  .have:=h1.2 z' hd;rw[h2.1]at this;grind
  .grind
def ln (b:Bd)(p:Nat->Nat)(t:Rat):Rat:=(b.w-b.Fo p-b.Kc p*t)/b.Kh p
theorem ln_at (h:b.Ok){p:Nat->Nat}{z t:Rat}(hF:b.F z t=b.w)(hp:b.Inc p z t)(hK:0<b.Kh p):z=b.ln p t:=by
 have h1:=F_at h hp;rw[hF]at h1;have hne:b.Kh p≠0:=bP;rw[ln];grind
theorem Ms (h:b.Ok){p:Nat->Nat}{t:Rat}(hp:b.Inc p (b.ln p t) t)(hK:0<b.Kh p):b.F (b.ln p t) t=b.w:=by
 have hne:b.Kh p≠0:=bP;rw[F_at h hp,ln];grind
def eln (b:Bd)(p:Nat->Nat)(t:Rat):Rat:=b.Kc p*b.ln p t+b.Kp p*t+b.Go p-b.w*b.A
theorem Jz (h:b.Ok){p:Nat->Nat}{t:Rat}(hp:b.Inc p (b.ln p t) t):b.e (b.ln p t) t=b.eln p t:=by rw[e,G_at h hp,eln]
end Bd
structure CR where
 S:List Int
 M:List RR
structure SR where
 x:Int
 c:RR
 k:CR
structure BR where
 w:Int
 a:RR
 l:List SR
def eN (z:Int):List PV:=[I z]
def eC (c:CR):List PV:=[.sl (c.S.map eN),.sl (c.M.map eR)]
def eS (s:SR):List PV:=I s.x::(eR s.c++eC s.k)
def eB (b:BR):List PV:=I b.w::(eR b.a++[.sl (b.l.map eS)])
def RR.sz (x:RR)(n:Nat):Prop:=x.n.l.length<=n/\x.d.l.length<=n
theorem RR.sz.v {x:RR}{n:Nat}(h:x.sz n):Vq x x.val n:=Vq.raw h.1 h.2
def i64 (z:Int):Prop := -9223372036854775808<=z/\z<=9223372036854775807
structure CR.Lim (c:CR):Prop where
 s:∀z∈c.S,i64 z
 m:∀x∈c.M,x.sz 12
 ls:c.S.length<=1000000000
 lm:c.M.length<=1000000000
theorem eW (p:Rat):sgn p<0↔p<0:=by unfold sgn;split<;>(try split)<;>simp_all<;>omega
theorem gi (p:Rat):sgn p=0↔p=0:=by
 unfold sgn;split
 .rename_i h;constructor
  .intro h1;omega
  .intro h1;subst h1;grind
 .split<;>simp_all
theorem kO (p:Rat):0<sgn p↔0<p:=by
 unfold sgn;split
 .rename_i h;constructor
  .intro h1;omega
  .intro h1;grind
 .rename_i h;split
  .rename_i h1;subst h1;simp
  .constructor
   .intro _;grind
   .intro _;omega
theorem Lk (p:Rat):0<=sgn p↔0<=p:=by
 have h1:=eW p;constructor
 .intro h;have:¬p<0:=fun h2=>by have:=h1.2 h2;omega
  grind
 .intro h;have:¬sgn p<0:=fun h2=>by have:=h1.1 h2;grind
  omega
theorem nT (p:Rat):sgn p<=0↔p<=0:=by
 have h1:=kO p;constructor
 .intro h;have:¬0<p:=fun h2=>by have:=h1.2 h2;omega
  grind
 .intro h;have:¬0<sgn p:=fun h2=>by have:=h1.1 h2;grind
  omega
def j0 (c:CR)(i:Nat):Int :=
 if c.S.getD i 0 < -10000000\/10000000<c.S.getD i 0\/(c.M.getD i RR.zero).val<0 then 2
 else if 0<i/\c.S.getD i 0<=c.S.getD (i-1) 0 then 10 else 0
def iS (c:CR):Nat->Nat->Int
 |_,0=>0
 |i,k+1=>if j0 c i=0 then iS c (i+1) k else j0 c i
def fb (c:CR):Int:=if 40<c.S.length then 8 else if c.M.length≠c.S.length then 11 else iS c 0 c.S.length
theorem bF {α:Type}{l:List α}{i:Nat}{d:α}(h:i<l.length):l[i]?=some (l.getD i d):=by
 rw[cN,bX h];rfl
theorem iR (c:CR)(hc:c.Lim):aU 254 [.agg (eC c)] (I (fb c)):=by
 obtain⟨S,M⟩:=c;obtain⟨hs,hm,hls,hlm⟩:=hc;simp only at hs hm hls hlm;have hSl:(S.map eN).length=S.length:=ap;have hMl:(M.map eR).length=M.length:=ap;generalize hE:fb ⟨S,M⟩=E;simp only[fb]at hE;show aU 254 [.agg [.sl (S.map eN),.sl (M.map eR)]] (I E);refine aD Proofs.Tryz.func254 ?_;refine D ?_ ?_<;>intro h
 .have h1:=bk h;rw[if_pos J]at hE;subst hE;exact cB
 have h40:¬40<S.length:=by have h1:=bS h;omega
 rw[if_neg h40]at hE;clear h;refine D ?_ ?_<;>intro h
 .have h1:M.length≠S.length:=by simp at h;omega
  rw[if_pos h1]at hE;subst hE;exact cB
 have hSM:M.length=S.length:=by simp at h;omega
 rw[if_neg J]at hE;clear h;refine H ?_;refine ai (fun i:Nat=>i<=S.length/\iS ⟨S,M⟩ i (S.length-i)=E) (fun i=>[(17,.sl (S.map eN)),(18,I S.length),(19,I (i:Nat)),(1,.ptr 1 1 0 0)]) (fun _=>[(1,1,⟨194,2,[[.sl (S.map eN),.sl (M.map eR)]],2⟩)]) (fun i=>S.length-i) 0 ⟨aP _,hE⟩ ⟨O,by rw[<-hSl];rfl,ah⟩ ?_;intro i s ⟨hi,hF⟩;refine D ?_ ?_<;>intro h
 .have hlt:i<S.length:=cw h;clear h;obtain⟨k,hk⟩:∃k,S.length-i=k+1:=⟨S.length-i-1,J⟩;rw[hk,iS]at hF;have hx:=bF (d:=0) hlt;have hmx:=bF (l:=M) (i:=i) (d:=RR.zero) J;have hse:j0 ⟨S,M⟩ i=j0 ⟨S,M⟩ i:=O
  conv at hse=>rhs;rw[j0]
  simp only at hse;generalize j0 ⟨S,M⟩ i=se at *
  have hxb:=hs _ (bC hx);have hmv:=(hm _ (bC hmx)).v;have hsg:=Pc (M.getD i RR.zero) (hx:=hmv) Y;have hsl:=eW (M.getD i RR.zero).val;generalize hx0:S.getD i 0=x at *
  generalize M.getD i RR.zero=m at *
  generalize sgn m.val=sg at *
  refine aN hx ?_;refine fi ?_ ?_<;>intro h
  .have h1:=bk h;clear h;have hS2:se=2:=by rw[hse,if_pos (.inl h1)]
   rw[hS2,if_neg Y]at hF;subst hF;exact cB
  .have h1:=bS h;clear h;refine fi ?_ ?_<;>intro h
   .have h2:=bk h;clear h;have hS2:se=2:=by rw[hse,if_pos (.inr (.inl h2))]
    rw[hS2,if_neg Y]at hF;subst hF;exact cB
   .have h2:=bS h;clear h;refine aN hmx ?_;refine ax hsg ?_;refine D ?_ ?_<;>intro h
    .have h3:=bk h;clear h;have hS2:se=2:=by rw[hse,if_pos (.inr (.inr (hsl.1 h3)))]
     rw[hS2,if_neg Y]at hF;subst hF;exact cB
    .have h3:=bS h;clear h;rw[if_neg (by rw[<-hsl];omega)]at hse;refine fi ?_ ?_<;>intro h
     .have h4:=bk h;clear h;obtain⟨j,rfl⟩:∃j,i=j+1:=⟨i-1,J⟩;have hw1:IntKind.i64.wrap (((j+1:Nat):Int)-1)=((j:Nat):Int):=by rw[wrap_i64 J J];omega
      have hy:=bF (l:=S) (i:=j) (d:=0) J;rw[show j+1-1=j by omega]at hse;generalize S.getD j 0=y at *
      refine H ?_;rw[hw1];refine tp O O O O O O O hy O ?_;refine D ?_ ?_<;>intro h
      .have h5:=bk h;clear h;have hS2:se=10:=by rw[hse,if_pos ⟨J,h5⟩]
       rw[hS2,if_neg Y]at hF;subst hF;exact cB
      .have h5:=bS h;clear h;have hS2:se=0:=by rw[hse,if_neg (fun h=>h5 h.2)]
       rw[if_pos hS2]at hF;have hw:IntKind.i64.wrap (((j+1:Nat):Int)+1)=((j+1+1:Nat):Int):=by rw[wrap_i64 J J];omega
       refine H ?_;exact⟨j+1+1,⟨J,by rw[show S.length-(j+1+1)=k by omega];exact hF⟩,J,O,O,congrArg I hw,ah⟩
     .have h4:=bS h;clear h;have hS2:se=0:=by rw[hse,if_neg (fun h=>h4 J)]
      rw[if_pos hS2]at hF;have hw:=dN i;refine H ?_;exact⟨i+1,⟨J,by rw[show S.length-(i+1)=k by omega];exact hF⟩,J,O,O,congrArg I hw,ah⟩
 .have hie:i=S.length:=co h;rw[hie,iD,iS]at hF;subst hF;exact cB
end Go.Pv
namespace Go.Pv
open Go.RowKit
variable [Globs]
def xV:List (Tmp × PV)->(Nat->PV)->Nat->PV
 |[],f=>f
 |(p,v)::l,f=>xV l fun r=>bif Nat.beq r p then v else f r
theorem xW {E:Env}:∀(ps:List Tmp) (cs:List PV) (vs:List Value) (f:Nat->PV) (tmps:Array Value),ps.length=cs.length->cs.length=vs.length->(∀p∈ps,p<tmps.size)->(∀t,Rep E (f t) (tmps.getD t undef)) ->
  (∀(i:Nat) (c:PV) (v:Value),cs[i]?=some c->vs[i]?=some v->Rep E c v) ->
  ((ps.zip vs).foldl (fun t q=>t.setIfInBounds q.1 q.2) tmps).size=tmps.size/\∀t,Rep E (xV (ps.zip cs) f t) (((ps.zip vs).foldl (fun t q=>t.setIfInBounds q.1 q.2) tmps).getD t undef)
 |[],[],[],f,tmps,_,_,_,hf,_=>⟨rfl,hf⟩
 |p::ps,c::cs,v::vs,f,tmps,h1,h2,hp,hf,hd=>by
  have hp0:p<tmps.size:=hp p (.head _);have ih:=xW ps cs vs (fun r=>bif Nat.beq r p then c else f r) (tmps.setIfInBounds p v) (by simpa using h1) (by simpa using h2) (fun q hq=>by simpa using hp q (.tail _ hq)) (fun t=>by
   by_cases ht:t=p
   .subst ht;have e1:(tmps.setIfInBounds t v).getD t undef=v:=by simp[hp0]
    rw[e1];simpa using hd 0 c v O O
   .have e1:(tmps.setIfInBounds p v).getD t undef=tmps.getD t undef:=by simp[FP (Ne.symm ht)]
    rw[e1,cS ht]
    exact hf t) (fun i c' v' e1 e2=>hd (i+1) c' v' (by simpa using e1) (by simpa using e2))
  refine⟨?_,fun t=>?_⟩
  .rw[q9,fB,ih.1];simp
  .rw[q9,q9,fB];exact ih.2 t
 |[],_::_,_,_,_,h,_,_,_,_=>by simp at h
 |[],[],_::_,_,_,_,h,_,_,_=>by simp at h
 |_::_,[],_,_,_,h,_,_,_,_=>by simp at h
 |_::_,_::_,[],_,_,_,h,_,_,_=>by simp at h
def d_ (ps:Array Tmp)(asg body:Code)(st:LoopState)(pend:Option Code)(regs:Nat->PV):Cont:=⟨0,0,[[.lbl ps asg body st pend regs]],4⟩
def GY (s:St)(kL g:Nat)(ps:Array Tmp)(asg body:Code)(regs:Nat->PV)(d:Nat)(K:St->Prop):Exit->St->Prop
 |.normal,s'=>s'.own kL=(g,some (d_ ps asg body .busy none regs))/\K (({ reg:=s.reg,own:=(s'.setOwn kL g (some (d_ ps asg body .ready none regs))).own }:St).putR d (.bool true))
 |.exit id,s'=>s'.own kL=(g,some (d_ ps asg body .busy none regs))/\K (({ reg:=s.reg,own:=(s'.setOwn kL g (some (d_ ps asg body .done (some (.exit id)) regs))).own }:St).putR d (.bool false))
 |.ret,s'=>s'.own kL=(g,some (d_ ps asg body .busy none regs))/\K (({ reg:=s.reg,own:=(s'.setOwn kL g (some (d_ ps asg body .done (some .ret) regs))).own }:St).putR d (.bool false))
 |_,_=>False
def rT (s:St)(kL g:Nat)(ps:Array Tmp)(asg body:Code)(Q:Exit->St->Prop):Exit->St->Prop
 |.normal,s' | .ret,s'=>(s'.own kL=(g,some (d_ ps asg body .ready none s.reg))/\Q .normal { reg:=s.reg,own:=(s'.setOwn kL (g+1) none).own }) \/
   (∃id,s'.own kL=(g,some (d_ ps asg body .done (some (.exit id)) s.reg))/\Q (.exit id) { reg:=s.reg,own:=(s'.setOwn kL (g+1) none).own }) \/
   (s'.own kL=(g,some (d_ ps asg body .done (some .ret) s.reg))/\Q .ret { reg:=s.reg,own:=(s'.setOwn kL (g+1) none).own })
 |_,_=>False
section
variable {P:Program}{L:dj}{C:Ctx}{γ:Nat->Option Nat}{s:St}{a:Act}{w:World}
theorem Sim.yl_at (_h:Sim C γ s a w){k g:Nat}{c:Cont}{v:Value}(hr:Rep (aB C γ s w) (.yl k g) v)(ho:s.own k=(g,some c)):∃b,γ k=some b/\v=.func (.yield b) #[] #[]:=by
 cases hr with
 |d h=>cases h
 |yl hg hl=>exact(hl (by simp[aB,ho]) ⟨γ k,c.ty,c.sz,c.rows.length⟩ (by simp[aB,ho])).2
theorem Sim.turnLoop {s':St}{a':Act}{w3:World}{C2:Ctx}{γ':Nat->Option Nat}(hs':Sim C2 γ' s' a' w3){kL g b:Nat}{ps:Array Tmp}{asg body:Code}{regs:Nat->PV}{st:LoopState}{pend:Option Code}(ho:s'.own kL=(g,some (d_ ps asg body st pend regs)))(hb:γ' kL=some b) :
  ∃rec:Loop,w3.heap[b]?=some (.loop rec)/\rec.state=st/\rec.pending=pend/\∀(st2:LoopState) (pend2:Option Code),Sim C2 γ' (s'.setOwn kL g (some (d_ ps asg body st2 pend2 regs))) a' (w3.putObj b (.loop { rec with state:=st2,pending:=pend2 })):=by
 have hit:=(hs'.sites kL _ (by rw[ho])).it b hb O (show(3:Nat)<=4 by decide);obtain⟨rec,regs',h1,h2,h3',h3,h4,h5⟩:uT (aB C2 γ' s' w3) b (d_ ps asg body st pend regs).rows:=hit;have h1:w3.heap[b]?=some (.loop rec):=h1;simp only[d_,List.cons.injEq,PV.lbl.injEq,and_true]at h2;obtain⟨e1,e2,e3,e4,e5,e6⟩:=h2;subst e6;refine⟨rec,h1,e4.symm,e5.symm,fun st2 pend2=>?_⟩;obtain⟨hp,hnew⟩:=AC (o' := .loop { rec with state:=st2,pending:=pend2 }) h1;have hnc:∀cur T f,w3.heap[b]? ≠ some (.cells cur T f):=fun cur T f e=>by rw[h1]at e;cases e
 have hle:=Em (c':=d_ ps asg body st2 pend2 regs) hs' ho hb hnc hp O O (aY);refine AD hs' ho hb hnc hp O O (aY) ⟨(fun e=>by cases e),(fun b' _ _ hk=>by simp[d_]at hk),fun b' hb' _ _=>?_,(fun b' _ hz=>by simp[d_]at hz)⟩;cases hb';show uT _ _ _;exact⟨{ rec with state:=st2,pending:=pend2 },regs,hnew,by simp[d_,<-e1,<-e2,<-e3],h3',h3,h4,fun t=>(h5 t).mono hle⟩
theorem Lw {o:Oper}{args:Array Operand}{tys:Array TypeId}{tf d kL g:Nat}{ps:Array Tmp}{asg body:Code}{regs:Nat->PV}{K:St->Prop}(ho:o.op=.call ⟨.value (.tmp tf),args,tys⟩)(hd:o.dst=some d)(hy:s.reg tf=.yl kL g)
  (hown:s.own kL=(g,some (d_ ps asg body .ready none regs))) (hps:args.size=ps.size)
  (h:PWP P L asg (aE (fun s2=>s2.own kL=(g,some (d_ ps asg body .ready none regs))/\PWP P L body (GY s kL g ps asg body regs d K) { reg:=s2.reg,own:=(s2.setOwn kL g (some (d_ ps asg body .busy none regs))).own }) (fun _ _=>False)) { reg:=xV (ps.toList.zip (args.toList.map s.ev)) regs,own:=s.own }):SE P L s o K:=by
 intro ro n C a w Q hG ⟨γ,hs⟩ hN hQ;have hyr:=hs.ev (.tmp tf);rw[show s.ev (.tmp tf) = .yl kL g from hy]at hyr;obtain⟨b,hb,hv⟩:=hs.yl_at hyr hown;have hit:=(hs.sites kL _ (by rw[hown])).it b hb O (show(3:Nat)<=4 by decide);obtain⟨rec,regs',h1,h2,h3',h3,h4,h5⟩:uT (aB C γ s w) b (d_ ps asg body .ready none regs).rows:=hit;have h1:w.heap[b]?=some (.loop rec):=h1;simp only[d_,List.cons.injEq,PV.lbl.injEq,and_true]at h2;obtain⟨e1,e2,e3,e4,e5,e6⟩:=h2;subst e6;refine⟨fun _ _=>trivial,?_⟩;have hexec:(o.semAt (Fr ro).round a.eval).run P w=.ok (.round b rec.fn ((rec.params.zip (args.map a.eval)).foldl (fun tmps (t,a)=>tmps.setIfInBounds t a) rec.tmps) rec.assign rec.body) w:=by
  rw[Oper.semAt_eq _ _ _ (fun c e=>by rw[ho]at e;cases e)];simp only[execOp,ho,resolve,hv,Deferred.ofValue,Sem.run_bind,Sem.run_pure,Result.andThen_ok,invoke];rw[show(#[]++args.map a.eval:Array Value)=args.map a.eval by simp];exact run_yield h1 (by rw[<-e1];simpa using hps)
 rw[hexec,Oper.uponIn_round];refine⟨fun e=>by simp[Fr,Fence.wide]at e,?_⟩;refine roundIn_of_wpIn trivial ?_;rw[<-e2,<-e3];rw[<-e2]at h3';rw[<-e3]at h3;let C2:Ctx:=⟨C.B,C.X,C.w0,rec.tmps.size,fun c v=>C.keep c v\/∃t,c=s.reg t/\v=a.tmps.getD t undef,[]⟩;have hG2:Good P L C2:=⟨hG.lay,hG.x,hG.mixed,hG.glob⟩;have hfold:(rec.params.zip (args.map a.eval)).foldl (fun tmps (t,a)=>tmps.setIfInBounds t a) rec.tmps=(ps.toList.zip (args.toList.map a.eval)).foldl (fun t q=>t.setIfInBounds q.1 q.2) rec.tmps:=by
  rw[<-e1,<-Array.foldl_toList,Array.toList_zip,Ab]
 obtain⟨b1,b2⟩:=xW (E:=aB C γ s w) ps.toList (args.toList.map s.ev) (args.toList.map a.eval) regs rec.tmps (by simpa using hps.symm) ap
  (fun p hp=>by rw[e1]at hp;simpa using ct.1 h4 p hp) (fun t=>h5 t) (fun i c v q1 q2=>by
   rw[bw]at q1 q2;cases hx:args.toList[i]? with
   |none=>rw[hx]at q1;simp at q1
   |some x=>rw[hx]at q1 q2;simp at q1 q2;subst q1;subst q2;exact hs.ev x)
 rw[hfold];have hsim2:SimE C2 { reg:=xV (ps.toList.zip (args.toList.map s.ev)) regs,own:=s.own } { tmps:=(ps.toList.zip (args.toList.map a.eval)).foldl (fun t q=>t.setIfInBounds q.1 q.2) rec.tmps,defers:=[] } w:=by
  refine⟨γ,O,b1,b2,hs.sites,hs.inj,hs.base,hs.below,hs.top,?_⟩;rintro c v (hk|⟨t,rfl,rfl⟩)
  .exact hs.kept c v hk
  .exact hs.regs t
 rw[JH];refine wpIn_mono (PWP.soundX (X:=fun A B=>A=B) (fun _=>rfl) (fun h k=>h.trans k) (fun h=>by subst h;exact .refl _) (r:=false) (fun h=>by cases h) asg _ C2 _ _ _ hG2 h3' (fun _ hq=>hq) hsim2 h) ?_;rintro e aA wA ⟨C',sA,rfl,⟨γA,hsA⟩,hq⟩;have he:e=.normal:=by
  cases e
  case normal=>rfl
  all_goals exact absurd hq id
 subst he;obtain⟨hownA,hbodyA⟩:=hq;show ∃w₂,_;have hkyA:=hsA.kept (.yl kL g) (.func (.yield b) #[] #[]) (.inr ⟨tf,hy.symm,hv.symm⟩);obtain⟨bA,hbA,hvA⟩:=hsA.yl_at hkyA hownA;have hbb:b=bA:=by injection hvA with q;injection q with q
 subst hbb;obtain⟨rec2,r1,r2,r3,r4⟩:=hsA.turnLoop hownA hbA;have hs1:=r4 .busy none;have hw2:wA.putObj b (.loop { rec2 with state := .busy,pending:=none })=wA.putObj b (.loop { rec2 with state := .busy }):=by
  have:({ rec2 with state := .busy,pending:=none }:Loop)={ rec2 with state := .busy }:=by rw[<-r3]
  rw[this]
 rw[hw2]at hs1;refine⟨_,run_beginRound r1 r2,?_⟩;have hsimB:SimE C2 { reg:=sA.reg,own:=(sA.setOwn kL g (some (d_ ps asg body .busy none regs))).own } aA (wA.putObj b (.loop { rec2 with state := .busy })):=⟨γA,hs1⟩;refine wpIn_mono (PWP.soundX (X:=fun A B=>A=B) (fun _=>rfl) (fun h k=>h.trans k) (fun h=>by subst h;exact .refl _) (r:=false) (fun h=>by cases h) body _ C2 _ _ _ hG2 h3 (fun _ hq=>hq) hsimB hbodyA) ?_
 have fin:∀ {s':St} {a':Act} {w3:World} (jump:Option Code) (st:LoopState),st=(if jump.isNone then .ready else .done)->SimE C2 s' a' w3->s'.own kL=(g,some (d_ ps asg body .busy none regs)) ->
   K (({ reg:=s.reg,own:=(s'.setOwn kL g (some (d_ ps asg body st jump regs))).own }:St).putR d (.bool jump.isNone)) ->
   ∃v w4,(Instr.endRound b jump).run P w3=.ok v w4/\∃s'',SimE C s'' (a.put o.dst v) w4/\K s'':=by
  rintro s' a' w3 jump st rfl ⟨γ',hs'⟩ hown' hk;have hky:=hs'.kept (.yl kL g) (.func (.yield b) #[] #[]) (.inr ⟨tf,hy.symm,hv.symm⟩);obtain⟨b',hb',hvb⟩:=hs'.yl_at hky hown';have hbb:b'=b:=by injection hvb with q;injection q with q;exact q.symm
  subst hbb;obtain⟨rec3,q1,q2,q3,q4⟩:=hs'.turnLoop hown' hb';have hs4:=q4 (if jump.isNone then .ready else .done) jump;refine⟨_,_,run_endRound jump q1,_,⟨γ',?_⟩,hk⟩;have hback:Sim C γ' { reg:=s.reg,own:=(s'.setOwn kL g (some (d_ ps asg body (if jump.isNone then .ready else .done) jump regs))).own } a (w3.putObj b' (.loop { rec3 with state:=if jump.isNone then .ready else .done,pending:=jump })) :=
   ⟨hs.defers,hs.size,fun r=>hs4.kept _ _ (.inr ⟨r,O,O⟩),hs4.sites,hs4.inj,hs4.base,hs4.below,hs4.top,fun c v hk=>hs4.kept c v (.inl hk)⟩
  rw[hd];rw[hd]at hN;exact hback.put (d:=some d) hN (.d (.bool _))
 rintro e a' w3 ⟨C',s',rfl,h',hq⟩;cases e
 case normal=>exact fin none .ready O h' hq.1 hq.2
 case ret=>exact fin (some .ret) .done O h' hq.1 hq.2
 case exit id=>exact fin (some (.exit id)) .done O h' hq.1 hq.2
 all_goals exact hq.elim
theorem CB {Q:Exit->St->Prop}{g:Operand}{ps:Array Tmp}{assign body:Code}(h:DA P L g ps assign body Q s):PWP P L (.rangeFunc g ps assign body) Q s:=Gh.of h
theorem yC {Q:Exit->St->Prop}{g:Operand}{gf:FuncId}{caps:List PV}{fn:Func}{bodyI:Code}{ps:Array Tmp}{asg body:Code}(kL:Nat){gn:Nat}{oc:Option Cont}(hg:s.ev g=.clo gf caps)(hf:P.funcs[gf]?=some fn)(hb:fn.body=some bodyI)
  (hn : (fn.name == "runtime.NumGoroutine") = false) (hlen : Nat.ble (1 + caps.length) fn.ntmps = true) (hc : nA fn.ntmps bodyI = true) (hres : fn.results = #[]) (hown : s.own kL = (gn, oc))
  (h:PWP P L bodyI (rT s kL (gn+1) ps asg body Q) { reg:=fun t=>((.yl kL (gn+1))::caps).getD t (.raw undef),own:=(s.setOwn kL (gn+1) (some (d_ ps asg body .ready none s.reg))).own }):DA P L g ps asg body Q s:=by
 intro n C a w hG ⟨γ,hs⟩ hcode hQ;simp only[jZ,iX,cm]at hcode;obtain⟨⟨hpsN,hasg⟩,hbody⟩:=hcode;refine wpIn_rangeFunc fun fnid _=>?_;have hge:=hs.ev g;rw[hg]at hge;obtain⟨vs,hv,hl,hd⟩:=hge.clo_inv;have hcal:jL P gf:=⟨fn,hf,hn,by simp[hb]⟩;obtain⟨rec,hrec⟩:∃rec:Loop,rec={ state := .ready,pending:=none,fn:=fnid,tmps:=a.tmps,params:=ps,assign:=asg,body:=body,defers:=w.heap.size }:=⟨_,O⟩;refine⟨w.heap.size+1,[Ea w.heap.size],(w.alloc (.deferred (some []))).alloc (.loop rec),{ target := .fn (.func gf) vs.toArray,args:=#[.func (.yield (w.heap.size+1)) #[] #[]] },(w.alloc (.deferred (some []))).alloc (.loop rec),gf,
  #[Value.func (.yield (w.heap.size+1)) #[] #[]]++vs.toArray,(w.alloc (.deferred (some []))).alloc (.loop rec),by rw[hrec];exact run_enterLoop_outer _ _ _ _ _,?_,fun _ _=>trivial,?_,fun e=>by simp[Fr,Fence.wide]at e,?_⟩
 .simp only[resolve,hv];simp[go_sem]
 .simp only[invoke];exact rB hcal _
 refine callsIn_of_wp hf hb trivial ?_;have hbel:Below w.heap.size w (w.alloc (.deferred (some []))):=(Below.refl _ w).alloc (aY) _;have hD:=hs.ext hbel;have hsz:(w.alloc (.deferred (some []))).heap.size=w.heap.size+1:=ap;have hT:Turn C γ s (w.alloc (.deferred (some []))) ((w.alloc (.deferred (some []))).alloc (.loop rec)) kL (some (w.alloc (.deferred (some []))).heap.size):=Turn.alloc _ kL;have hle:=hT.le hD (d_ ps asg body .ready none s.reg);have hfin:s.fin kL (d_ ps asg body .ready none s.reg)=s.setOwn kL (gn+1) (some (d_ ps asg body .ready none s.reg)):=by rw[St.fin,hown]
 have hs1:=hT.sim (c:=d_ ps asg body .ready none s.reg) hD ⟨(fun e=>by cases e),(fun b' _ _ hk=>by simp[d_]at hk),fun b' hb' _ _=>by
  cases hb';show uT _ _ _;refine⟨rec,s.reg,cC _ _,by rw[hrec];rfl,by rw[hrec];simpa [hs.size] using hasg,by rw[hrec];simpa [hs.size] using hbody,by rw[hrec];simpa [hs.size] using hpsN,fun t=>?_⟩
  rw[show rec.tmps=a.tmps by rw[hrec]];exact(hD.regs t).mono hle,(fun b' _ hz=>by simp[d_]at hz)⟩
 rw[hfin,hsz]at hs1;rw[hfin,hsz]at hle;have hDobj:((w.alloc (.deferred (some []))).alloc (.loop rec)).heap[w.heap.size]?=some (.deferred (some [])):=by
  rw[Below.heap_alloc _ _ _ ap];exact cC w _
 have hDok:jU C (nl γ kL (some (w.heap.size+1))) (s.setOwn kL (gn+1) (some (d_ ps asg body .ready none s.reg))) ((w.alloc (.deferred (some []))).alloc (.loop rec)) w.heap.size:=by
  refine⟨by simp;omega,fun hx=>?_,fun k c hk hb'=>?_⟩
  .have:=hG.x _ hx;have:=hs.top;omega
  .by_cases hkk:k=kL
   .subst hkk;rw[dx]at hb';injection hb' with q;omega
   .rw[aO hkk]at hk;rw[jY hkk]at hb';have:=(hs.base k c _ hk hb').2;omega
 let C1:Ctx:=⟨C.B,C.X,C.w0,fn.ntmps,fun c v=>C.keep c v\/(∃t,c=s.reg t/\v=a.tmps.getD t undef)\/(c=.dfd/\v=.pointer (some ⟨w.heap.size,0,none⟩))\/(c=.yl kL (gn+1)/\v=.func (.yield (w.heap.size+1)) #[] #[]),[]⟩;have hG1:Good P L C1:=⟨hG.lay,hG.x,hG.mixed,hG.glob⟩;have hyl:Rep (aB C (nl γ kL (some (w.heap.size+1))) (s.setOwn kL (gn+1) (some (d_ ps asg body .ready none s.reg))) ((w.alloc (.deferred (some []))).alloc (.loop rec))) (.yl kL (gn+1)) (.func (.yield (w.heap.size+1)) #[] #[]):=by
  refine .yl (by simp[aB,ar]) fun _ l hl=>?_;simp only[aB,ar,dx,dG,bm]at hl;subst hl;exact⟨O,_,O,O⟩
 have hlen':1+vs.length<=fn.ntmps:=by rw[<-hl];simpa using hlen
 have hargs:∀t,Rep (aB C (nl γ kL (some (w.heap.size+1))) (s.setOwn kL (gn+1) (some (d_ ps asg body .ready none s.reg))) ((w.alloc (.deferred (some []))).alloc (.loop rec))) (((.yl kL (gn+1))::caps).getD t (.raw undef))
   ((#[Value.func (.yield (w.heap.size+1)) #[] #[]]++vs.toArray++Array.replicate (fn.ntmps-(#[Value.func (.yield (w.heap.size+1)) #[] #[]]++vs.toArray).size) undef).getD t undef):=by
  intro t;cases t with
  |zero =>
   have e2:(#[Value.func (.yield (w.heap.size+1)) #[] #[]]++vs.toArray++Array.replicate (fn.ntmps-(#[Value.func (.yield (w.heap.size+1)) #[] #[]]++vs.toArray).size) undef).getD 0 undef=Value.func (.yield (w.heap.size+1)) #[] #[]:=by
    simp[Array.getElem?_append]
   rw[e2];exact hyl
  |succ t =>
   rcases bG t vs.length with hlt|hge
   .have hlt':t<caps.length:=J;have e1:((PV.yl kL (gn+1))::caps).getD (t+1) (.raw undef)=caps[t]:=by simp[hlt']
    have e2:(#[Value.func (.yield (w.heap.size+1)) #[] #[]]++vs.toArray++Array.replicate (fn.ntmps-(#[Value.func (.yield (w.heap.size+1)) #[] #[]]++vs.toArray).size) undef).getD (t+1) undef=vs[t]:=by
     rw[lE,qS aS,sd ap];simp[hlt]
    rw[e1,e2];exact(hd t caps[t] vs[t] (bX hlt') (bX hlt)).mono ((lT hbel hs.base).trans' hle)
   .have e1:((PV.yl kL (gn+1))::caps).getD (t+1) (.raw undef) = .raw undef:=by simp[fe (by omega:caps.length<=t)]
    have e2:(#[Value.func (.yield (w.heap.size+1)) #[] #[]]++vs.toArray++Array.replicate (fn.ntmps-(#[Value.func (.yield (w.heap.size+1)) #[] #[]]++vs.toArray).size) undef).getD (t+1) undef=undef:=by
     rw[lE,sd aS];rcases bG (t+1-(#[Value.func (.yield (w.heap.size+1)) #[] #[]]++vs.toArray).size) (fn.ntmps-(#[Value.func (.yield (w.heap.size+1)) #[] #[]]++vs.toArray).size) with h1|h1
     .rw[qU,if_pos h1];rfl
     .rw[nI (by simpa using h1)];rfl
    rw[e1,e2];exact .d (.raw _)
 have hsim:SimE C1 { reg:=fun t=>((.yl kL (gn+1))::caps).getD t (.raw undef),own:=(s.setOwn kL (gn+1) (some (d_ ps asg body .ready none s.reg))).own }
   { tmps:=#[Value.func (.yield (w.heap.size+1)) #[] #[]]++vs.toArray++Array.replicate (fn.ntmps-(#[Value.func (.yield (w.heap.size+1)) #[] #[]]++vs.toArray).size) undef,defers:=[] } ((w.alloc (.deferred (some []))).alloc (.loop rec)):=by
  refine⟨nl γ kL (some (w.heap.size+1)),O,by simp[C1];omega,hargs,hs1.sites,hs1.inj,hs1.base,hs1.below,hs1.top,?_⟩;rintro c v (hk|⟨t,rfl,rfl⟩|⟨rfl,rfl⟩|⟨rfl,rfl⟩)
  .exact hs1.kept c v hk
  .exact hs1.regs t
  .exact .dfd hDok hDobj
  .exact hyl
 refine wpIn_mono (PWP.soundX (X:=fun A B=>A=B) (fun _=>rfl) (fun h k=>h.trans k) (fun h=>by subst h;exact .refl _) (r:=false) (fun h=>by cases h) bodyI _ C1 _ _ _ hG1 hc (fun _ hq=>hq) hsim h) ?_
 have fin:∀ {s':St} {a':Act} {w3:World} (pend:Option Code) (st:LoopState),st ≠ .busy->SimE C1 s' a' w3->s'.own kL=(gn+1,some (d_ ps asg body st pend s.reg)) ->
   ∃w4,(Instr.endLoop (w.heap.size+1)).run P w3=.ok pend w4/\∃C4,Ext C C4/\SimE C4 { reg:=s.reg,own:=(s'.setOwn kL (gn+1+1) none).own } { a with defers:=[Ea w.heap.size]++a.defers } w4:=by
  rintro s' a' w3 pend st hst ⟨γ',hs'⟩ hown';have hky:=hs'.kept (.yl kL (gn+1)) (.func (.yield (w.heap.size+1)) #[] #[]) (.inr (.inr (.inr ⟨O,O⟩)));obtain⟨b',hb',hvb⟩:=hs'.yl_at hky hown';have hbb:b'=w.heap.size+1:=by injection hvb with q;injection q with q;exact q.symm
  subst hbb;obtain⟨rec3,q1,q2,q3,q4⟩:=hs'.turnLoop hown' hb';have hs4:=q4 .exhausted pend;have hw4:w3.putObj (w.heap.size+1) (.loop { rec3 with state := .exhausted,pending:=pend })=w3.putObj (w.heap.size+1) (.loop { rec3 with state := .exhausted }):=by
   have:({ rec3 with state := .exhausted,pending:=pend }:Loop)={ rec3 with state := .exhausted }:=by rw[<-q3]
   rw[this]
  rw[hw4]at hs4;refine⟨_,by rw[<-q3];exact run_endLoop q1 (by rw[q2];exact hst),?_⟩;obtain⟨hs5,_,_⟩:=hs4.drop hG1.x (ar s' kL (gn+1) _);have hoo:((s'.setOwn kL (gn+1) (some (d_ ps asg body .exhausted pend s.reg))).setOwn kL (gn+1+1) none).own=(s'.setOwn kL (gn+1+1) none).own:=by
   funext r;by_cases hr:r=kL
   .subst hr;rw[ar,ar]
   .rw[aO hr,aO hr,aO hr]
  have key:∀ow,ow=(s'.setOwn kL (gn+1+1) none).own->Sim C1 γ' { reg:=s'.reg,own:=ow } a' (w3.putObj (w.heap.size+1) (.loop { rec3 with state := .exhausted })) ->
    ∃C4,Ext C C4/\SimE C4 { reg:=s.reg,own:=(s'.setOwn kL (gn+1+1) none).own } { a with defers:=[Ea w.heap.size]++a.defers } (w3.putObj (w.heap.size+1) (.loop { rec3 with state := .exhausted })):=by
   rintro ow rfl hs6;refine⟨⟨C.B,C.X,C.w0,C.N,fun c v=>C.keep c v\/(c=.dfd/\v=.pointer (some ⟨w.heap.size,0,none⟩)),w.heap.size::C.dfs⟩,⟨O,O,O,O,fun c v hk => .inl hk,fun hdk=>⟨?_,?_⟩⟩,γ',?_,hs.size,fun r=>hs6.kept _ _ (.inr (.inl ⟨r,O,O⟩)),hs6.sites,hs6.inj,hs6.base,hs6.below,hs6.top,?_⟩
   .rw[rb];refine⟨fun hm=>?_,hdk.1⟩;have:=hs.kept _ _ (hdk.2 _ hm).2;cases this with
    |d hd=>cases hd
    |dfd h1 _=>exact absurd h1.1 (Nat.lt_irrefl _)
   .intro D0 hDm;rcases bV.1 hDm with rfl|hDm
    .exact⟨hs.top,.inr ⟨O,O⟩⟩
    .exact⟨(hdk.2 D0 hDm).1,.inl (hdk.2 D0 hDm).2⟩
   .show [Ea w.heap.size]++a.defers=_;rw[hs.defers];rfl
   .rintro c v (hk|⟨rfl,rfl⟩)
    .exact hs6.kept c v (.inl hk)
    .exact hs6.kept _ _ (.inr (.inr (.inl ⟨O,O⟩)))
  exact key _ hoo hs5
 have ends:∀ {s':St} {a':Act} {w3:World},SimE C1 s' a' w3->rT s kL (gn+1) ps asg body Q .ret s'->a'.defers=[]/\∃v,(results fn a'.tmps).run P w3=.ok v w3 /\
   rangePost (Fr none) n P (w.heap.size+1) (Mk Ext C Q) { a with defers:=[Ea w.heap.size]++a.defers } (.returned v) w3:=by
  intro s' a' w3 h' hq;refine⟨by obtain⟨_,h'⟩:=h';exact h'.defers,.tuple #[],by simp[results,hres],?_⟩;rcases hq with⟨ho,hq⟩|⟨id,ho,hq⟩|⟨ho,hq⟩
  .obtain⟨w4,e1,C4,e2,e3⟩:=fin none .ready ap h' ho;exact⟨none,w4,e1,C4,_,e2,e3,hq⟩
  .obtain⟨w4,e1,C4,e2,e3⟩:=fin (some (.exit id)) .done ap h' ho;exact⟨some (.exit id),w4,e1,wpIn_exit ⟨C4,_,e2,e3,hq⟩⟩
  .obtain⟨w4,e1,C4,e2,e3⟩:=fin (some .ret) .done ap h' ho;exact⟨some .ret,w4,e1,wpIn_ret ⟨C4,_,e2,e3,hq⟩⟩
 rintro e a' w3 ⟨C',s',rfl,h',hq⟩;cases e
 case normal=>exact ends h' hq
 case ret=>exact ends h' hq
 all_goals exact hq.elim
end
end Go.Pv
set_option maxHeartbeats 2000000
namespace Go.Pv
attribute [local irreducible] PWP POps PQuiet PSem aE aw aj ak
open Go.Proofs
def CR.s (c:CR)(k:Nat):Rat:=(c.S.getD k 0:Int)
def CR.m (c:CR)(k:Nat):Rat:=(c.M.getD k RR.zero).val
def MC (c:CR):Nat->RR
 |0=>ofQ ((0:Int):Rat)
 |k+1=>c.M.getD k RR.zero
theorem B6 (c:CR)(hc:c.Lim)(k:Nat):Vq (c.M.getD k RR.zero) (c.m k) 12:=by
 refine⟨O,?_⟩;rw[cN];cases h:c.M[k]? with
 |none=>exact⟨aP _,aP _⟩
 |some x=>exact hc.m x (bC h)
theorem xU (c:CR)(hc:c.Lim)(k:Nat):Vq (MC c k) (cQ c.m k) 12:=by
 cases k with
 |zero =>
  refine⟨ofQ_val _,?_⟩;have:=(o_ (HQ.int (z:=0) (h:=⟨Y⟩)).ok).ok;show(ofQ ((0:Int):Rat)).n.l.length<=12/\(ofQ ((0:Int):Rat)).d.l.length<=12;exact⟨by have:=this.1;omega,by have:=this.2;omega⟩
 |succ k=>exact B6 c hc k
theorem rD {c:CR}(hc:c.Lim)(k:Nat):i64 (c.S.getD k 0):=by
 rw[cN];cases h:c.S[k]? with
 |none=>exact⟨Y,Y⟩
 |some x=>exact hc.s x (bC h)
def O8 (q0 q2 q3 g4 g7 b4:Nat)(rec x2 x3 x1004:Cont)(before sum:RR):List (Nat × Nat × Cont) :=
 [(2000,q0,rec),(2002,q2,x2),(2003,q3,x3),(4,b4,⟨41,4,[eR before],2⟩),(1004,g4,x1004),(1007,g7,⟨41,4,[eR sum],2⟩)]
theorem e_ {s:St}(k:Nat):Ghost s (s.setOwn k ((s.own k).1+2) none):=Ghost.drop O
theorem zt {L:dj}{fn:Func}{K:St->PV->Prop}{s:St}{t:Nat}{v:PV}(h:fn.results.toList=[.tmp t])(h1:s.reg t=v)(hk:K s v):ak L fn K .ret s:=by
 unfold ak;refine⟨[s.reg t],True/\True,by rw[h];rfl,⟨trivial,bh⟩,?_⟩;rw[h1];exact hk
theorem aQ {P:Program}{L:dj}{x:Code}{Q:Exit->St->Prop}{s:St}(R:List (Nat × PV))(O0:List (Nat × Nat × Cont))(hf:Fit s R O0)(h:∀s1:St,PWP P L x Q (s1.over R O0)):PWP P L x Q s:=by
 have:=h s;rwa [Fit.over hf]at this
theorem wC {Q:Exit->St->Prop}{a b:Nat}{asg body:Code}{sc:St}(c:CR)(hc:c.Lim)(y:RR){q:Rat}{n:Nat}(hy:Vq y q n)(hn:n<=9000000)(hSM:c.M.length=c.S.length)(V:Nat->RR){q0 q2 q3 g4 g7:Nat}{x1004:Cont}(s0:St)
  (hown:Fit s0 [] [(2000,q0,d_ #[a,b] asg body .ready none sc.reg),(2002,q2,⟨194,2,[eC c],2⟩),(2003,q3,⟨41,4,[eR y],2⟩),(1004,g4,x1004),(1007,g7,⟨41,4,[eR (V 0)],2⟩)])
  (hround:∀i,i<c.S.length->¬q-c.s i<0->∀(b4:Nat) (bf:RR) (own:Nat->Nat × Option Cont),Fit { reg:=fun _ => .raw undef,own:=own } [] (O8 q0 q2 q3 g4 g7 b4 (d_ #[a,b] asg body .ready none sc.reg) ⟨194,2,[eC c],2⟩ ⟨41,4,[eR y],2⟩ x1004 bf (V i)) ->
   ∀uU:Exit->St->Prop,(∀s2,Fit s2 [] (O8 q0 q2 q3 g4 g7 b4 (d_ #[a,b] asg body .busy none sc.reg) ⟨194,2,[eC c],2⟩ ⟨41,4,[eR y],2⟩ x1004 bf (V (i+1)))->uU .normal s2) ->
   PWP Tryz.prog lay.get asg (aE (fun s2=>s2.own 2000=(q0,some (d_ #[a,b] asg body .ready none sc.reg))/\PWP Tryz.prog lay.get body uU { reg:=s2.reg,own:=(s2.setOwn 2000 q0 (some (d_ #[a,b] asg body .busy none sc.reg))).own }) (fun _ _=>False))
    { reg:=xV [(a,.agg (eR (ofQ (c.m i-cQ c.m i)))),(b,.agg (eR (ofQ (q-c.s i))))] sc.reg,own:=own })
  (hend:∀i,i<=c.S.length->(i=c.S.length\/(i<c.S.length/\q-c.s i<0))->∀(b4:Nat) (bf:RR) (s2:St),Fit s2 [] (O8 q0 q2 q3 g4 g7 b4 (d_ #[a,b] asg body .ready none sc.reg) ⟨194,2,[eC c],2⟩ ⟨41,4,[eR y],2⟩ x1004 bf (V i)) ->
   Q .normal { reg:=sc.reg,own:=(s2.setOwn 2000 (q0+1) none).own }) :
  PWP Tryz.prog lay.get ((Tryz.f315.body).getD .skip) (rT sc 2000 q0 #[a,b] asg body Q) { reg:=fun t=>[PV.yl 2000 q0,.ptr 2002 q2 0 0,.ptr 2003 q3 0 0].getD t (.raw undef),own:=s0.own }:=by
 have hz:=jt 0 Y Y;have hSl:(c.S.map eN).length=c.S.length:=ap;rw[<-Fit.over (l:=[]) hown];generalize hrd:d_ #[a,b] asg body .ready none sc.reg=rd at *
 refine G hz ?_;refine H ?_;refine ai (fun k:Nat × Nat × RR=>k.1<=c.S.length/\k.2.2=MC c k.1) (fun k=>[(0,.yl 2000 q0),(1,.ptr 2002 q2 0 0),(2,.ptr 2003 q3 0 0),(4,.ptr 4 k.2.1 0 0),(10,.sl (c.S.map eN)),(11,I c.S.length),(12,I (k.1:Nat))])
  (fun k=>O8 q0 q2 q3 g4 g7 k.2.1 rd ⟨194,2,[eC c],2⟩ ⟨41,4,[eR y],2⟩ x1004 k.2.2 (V k.1)) (fun k=>c.S.length-k.1) (0,_,MC c 0) ⟨aP _,O⟩ ⟨O,O,O,O,O,by rw[<-hSl];rfl,ah⟩ ?_
 rintro⟨i,b4,bf⟩ st ⟨hi,hbf⟩;simp only at hi hbf;subst hbf;dsimp only;refine D ?_ ?_<;>intro h
 .have hlt:i<c.S.length:=cw h;clear h;have hx:=bF (d:=0) hlt;have hxb:=rD hc i;have hnum:=jt (c.S.getD i 0) hxb.1 hxb.2;have hzb:Zb (c.S.getD i 0):=aI hxb.1 hxb.2;have hsub:=nk y (ofQ ((c.S.getD i 0:Int):Rat)) (hx:=hy) J Y;have hfar:Vq (ofQ (q-((c.S.getD i 0:Int):Rat))) (q-c.s i) (n+1+4+1):=Vq.ofQ (h:=@HQ.sub _ _ (n+1) 4 hy.hq HQ.int);have hsg:=Pc (ofQ (q-((c.S.getD i 0:Int):Rat))) (hx:=hfar) J;have hsl:=eW (q-c.s i);have hw:IntKind.i64.wrap (((i:Nat):Int)+1)=((i+1:Nat):Int):=by
   have:=c.S.length;rw[wrap_i64 J (by have:=hc.ls;omega)];omega
  refine aN hx ?_;refine cV 4 ?_;refine ao (e_ 7) ?_;refine a_ [(4,7),(5,7)] aH aH ?_;refine G hnum ?_;refine G hsub ?_;refine H ?_;refine KL 13 [21,22,23,24,25,26,27,28,29,30,31,32,33] aH ?_;refine ax hsg ?_;refine fi ?_ ?_<;>intro h
  .have hneg:q-c.s i<0:=hsl.1 (bk h);clear h;refine H ?_;refine yz ?_;refine H ?_;refine .inl ⟨by rw[<-hrd];rfl,?_⟩;exact hend i J (.inr ⟨hlt,hneg⟩) b4 _ _ ⟨O,O,O,O,O,O,bh⟩
  .have hpos:¬q-c.s i<0:=fun h2=>(bS h) (hsl.2 h2);clear h;have hmx:=bF (l:=c.M) (i:=i) (d:=RR.zero) J;have hmv:=B6 c hc i;have hbv:=xU c hc i;have hsub2:=nk (c.M.getD i RR.zero) (MC c i) (hx:=hmv) (hy:=hbv) Y Y;refine aN hmx ?_;refine G hsub2 ?_;refine H ?_;refine HZ O O O (Lw (ps:=#[a,b]) (asg:=asg) (body:=body) (regs:=sc.reg) O O O (by rw[hrd];rfl) O ?_);rw[hrd];refine hround i hlt hpos b4 (MC c i) _ (by exact⟨O,O,O,O,O,O,bh⟩) _ (fun s2 hf=>?_);rw[<-Fit.over (l:=[]) hf];refine⟨O,?_⟩;refine yz ?_;refine aN hmx ?_;refine H ?_;exact⟨(i+1,b4,MC c (i+1)),⟨by simp only;omega,O⟩,by simp only;omega,O,O,O,O,O,O,congrArg I hw,by rw[<-hrd];rfl,ah⟩
 .have hie:i=c.S.length:=co h;clear h;refine H ?_;refine .inl ⟨by rw[<-hrd];rfl,?_⟩;exact hend i J (.inl hie) b4 _ _ ⟨O,O,O,O,O,O,bh⟩
def td:Code->Option (Array Tmp × Code × Code)
 |.rangeFunc _ ps a b=>some (ps,a,b)
 |.seq x y=>match td x with|some r=>some r|none=>td y
 |.block _ c=>td c
 |.loop c=>td c
 |.cond _ x y=>match td x with|some r=>some r|none=>td y
 |_=>none
theorem wg {c:CR}(hc:c.Lim)(k:Nat):HQ (c.m k-cQ c.m k) 27:=@HQ.sub _ _ 13 13 (B6 c hc k).hq (xU c hc k).hq
theorem KO {c:CR}(hc:c.Lim){q:Rat}{n:Nat}(h:HQ q n)(k:Nat):HQ (q-c.s k) (n+5):=by
 have hb:=rD hc k;have hzb:Zb (c.S.getD k 0):=aI hb.1 hb.2;exact @HQ.sub _ _ n 4 h HQ.int
theorem Gz {c:CR}(hc:c.Lim){q:Rat}{n:Nat}(h:HQ q n)(k:Nat):HQ (fZ c.s c.m q k) (n+32):=by
 rw[fZ];split
 .exact HQ.zero.mono J
 .exact(@HQ.mul _ _ 27 (n+5) (wg hc k) (KO hc h k)).mono J
theorem yB {c:CR}(ha:∀k,k+1<c.S.length->c.s k<c.s (k+1)){f:Nat->Rat}{q:Rat}(hf:∀k,q-c.s k<0->f k=0){i:Nat}(hi:i<=c.S.length)(h:i=c.S.length\/(i<c.S.length/\q-c.s i<0)):aq f i=aq f c.S.length:=by
 rcases h with h|⟨h1,h2⟩
 .rw[h]
 .have key:∀m,i+m<=c.S.length->aq f (i+m)=aq f i/\(i+m<c.S.length->q-c.s (i+m)<0):=by
   intro m
   induction m with
   |zero=>intro _;exact⟨rfl,fun _=>h2⟩
   |succ m ih =>
    intro hm;obtain⟨e1,e2⟩:=ih J;have h3:=e2 J;refine⟨by rw[Nat.add_succ,aq,e1,hf _ h3];grind,fun hl=>?_⟩;have h4:=ha (i+m) J;rw[show i+(m+1)=i+m+1 by omega];grind
  have:=(key (c.S.length-i) J).1;rw[show i+(c.S.length-i)=c.S.length by omega]at this;exact this.symm
theorem x7 {c:CR}:∀(k i:Nat),iS c i k=0->∀j,i<=j->j<i+k->j0 c j=0
 |0,i,_,j,h1,h2=>by omega
 |k+1,i,h,j,h1,h2=>by
  rw[iS]at h;by_cases hs:j0 c i=0
  .rw[if_pos hs]at h;by_cases hj:j=i
   .subst hj;exact hs
   .exact x7 k (i+1) h j J J
  .rw[if_neg hs]at h;exact absurd h hs
theorem ic {c:CR}(h:fb c=0):c.S.length<=40/\c.M.length=c.S.length/\(∀k,k<c.S.length -> -10000000<=c.S.getD k 0/\c.S.getD k 0<=10000000/\0<=c.m k)/\∀k,k+1<c.S.length->c.s k<c.s (k+1):=by
 rw[fb]at h;split at h
 .omega
 .rename_i h1;split at h
  .omega
  .rename_i h2;have hs:=x7 _ _ h;refine⟨J,J,fun k hk=>?_,fun k hk=>?_⟩
   .have:=hs k J J;rw[j0]at this;split at this
    .omega
    .rename_i h3;refine⟨J,J,?_⟩;rw[CR.m];have:¬(c.M.getD k RR.zero).val<0:=fun h=>h3 (.inr (.inr h));grind
   .have:=hs (k+1) J J;rw[j0]at this;split at this
    .omega
    .split at this
     .omega
     .rename_i h4;have h5:c.S.getD k 0<c.S.getD (k+1) 0:=by
       rw[show k+1-1=k by omega]at h4;omega
      rw[CR.s,CR.s]
      exact_mod_cast h5
theorem Hg {c:CR}(h:fb c=0):Crv c.S.length c.s c.m:=⟨(ic h).2.2.2,fun k hk=>((ic h).2.2.1 k hk).2.2⟩
noncomputable def Q_:Array Tmp × Code × Code:=(td ((Tryz.f267.body).getD .skip)).getD (#[],.skip,.skip)
def GA (P:Program)(sc:St)(q0 q2 q3 g4 g7 b4:Nat)(pa pb:Nat)(asg body:Code)(x2 x3 x1004:Cont)(bf V0 V1 CH FA:RR):Prop :=
 ∀own:Nat->Nat × Option Cont,Fit { reg:=fun _ => .raw undef,own:=own } [] (O8 q0 q2 q3 g4 g7 b4 (d_ #[pa,pb] asg body .ready none sc.reg) x2 x3 x1004 bf V0) ->
  ∀uU:Exit->St->Prop,(∀s2,Fit s2 [] (O8 q0 q2 q3 g4 g7 b4 (d_ #[pa,pb] asg body .busy none sc.reg) x2 x3 x1004 bf V1)->uU .normal s2) ->
  PWP P lay.get asg (aE (fun s2=>s2.own 2000=(q0,some (d_ #[pa,pb] asg body .ready none sc.reg))/\PWP P lay.get body uU { reg:=s2.reg,own:=(s2.setOwn 2000 q0 (some (d_ #[pa,pb] asg body .busy none sc.reg))).own }) (fun _ _=>False))
   { reg:=xV [(pa,.agg (eR CH)),(pb,.agg (eR FA))] sc.reg,own:=own }
theorem Dm {s0:St}{q0 q2 q3 g4 g7 b4:Nat}{x2 x3 x1004:Cont}{bf V0 V1 CH FA PR:RR}(hmul:aU 78 [.agg (eR CH),.agg (eR FA)] (.agg (eR PR)))(hadd:aU 74 [.agg (eR V0),.agg (eR PR)] (.agg (eR V1))) :
  GA Tryz.prog (s0.over [(7,.ptr 1007 g7 0 0)] []) q0 q2 q3 g4 g7 b4 20 21 Q_.2.1 Q_.2.2 x2 x3 x1004 bf V0 V1 CH FA:=by
 intro own hf uU hPost;have ho:own=(St.over { reg:=fun _ => .raw undef,own:=own } [] (O8 q0 q2 q3 g4 g7 b4 (d_ #[20,21] Q_.2.1 Q_.2.2 .ready none (s0.over [(7,.ptr 1007 g7 0 0)] []).reg) x2 x3 x1004 bf V0)).own:=congrArg St.own (Fit.over hf).symm;rw[ho];clear ho hf;generalize (St.mk (fun _ => .raw undef) own)=s1;refine H ?_;refine⟨O,?_⟩;refine cX 5 [22,23,24,25,26] ?_;refine G hmul ?_;refine G hadd ?_;refine H ?_;exact hPost _ ⟨O,O,O,O,O,O,bh⟩
theorem IK (c:CR)(hc:c.Lim)(h0:fb c=0)(y:RR){q:Rat}{n:Nat}[hy:Vq y q n](hn:n<=100000):aU 267 [.agg (eC c),.agg (eR y)] (.tup [.agg (eR (ofQ (kR c.S.length c.s c.m q))),I 0]):=by
 have hcc:=iR c hc;rw[h0]at hcc;obtain⟨h40,hSM,-,hasc⟩:=ic h0;have hz:=jt 0 Y Y;rw[show(((0:Int):Rat))=0 from O]at hz;have hsum:∀i,i<=40->Vq (ofQ (aq (fZ c.s c.m q) i)) (aq (fZ c.s c.m q) i) (i*(n+1+32+1)+4):=fun i _=>Vq.ofQ (h:=cd i fun k _=>Gz hc hy.hq k);refine Ret.of_pwpR layOk mixed Go.Proofs.Tryz.func267 O Y O O O ?_;refine ax hcc ?_;refine G hz ?_;refine cV 5 ?_;refine ao (Ghost.move (k:=2) (k':=1002) (t:=2) O O O O) ?_;refine ao (Ghost.move (k:=3) (k':=1003) (t:=3) O O O O) ?_;refine ao (Ghost.move (k:=4) (k':=1004) (t:=4) O O O O) ?_;refine ao (Ghost.move (k:=7) (k':=1007) (t:=7) O O O O) ?_
 (refine cV 5 ?_;refine aR 2 ?_)
 iterate 2 refine iQ O ?_
 refine bJ ?_;refine br O (cz layOk O O Go.Proofs.Tryz.func307 O Y O O ?_);refine cV 1 ?_;refine ao (Ghost.move (k:=2) (k':=2002) (t:=2) O O O O) ?_;refine ao (Ghost.move (k:=3) (k':=2003) (t:=3) O O O O) ?_;refine H ?_;refine zt O O ?_;refine aT ?_;refine H ?_;refine aQ [(7,.ptr 1007 1 0 0),(4,.ptr 1004 1 0 0),(19,.clo 315 [.ptr 2002 1 0 0,.ptr 2003 1 0 0])] [(2002,1,⟨194,2,[eC c],2⟩),(2003,1,⟨41,4,[eR y],2⟩),(1004,1,⟨41,4,[[.bool false,.nil,.bool false,.nil]],2⟩),(1007,1,⟨41,4,[eR (ofQ 0)],2⟩)] ah ?_;intro s3;refine CB (yC (ps:=#[20,21]) (asg:=Q_.2.1) (body:=Q_.2.2) 2000 O Go.Proofs.Tryz.func315 O O O O O O ?_);generalize hq0:(s3.own 2000).1+1=q0;refine wC (q:=q) (n:=n) (q0:=q0) (q2:=1) (q3:=1) (g4:=1) (g7:=1) c hc y hy J hSM (fun i=>ofQ (aq (fZ c.s c.m q) i)) _ ⟨by rw[<-hq0];rfl,O,O,O,O,bh⟩ ?_ ?_
 .intro i hi hpos b4 bf;have hmul:=iE (ofQ (c.m i-cQ c.m i)) (ofQ (q-c.s i)) (hx:=Vq.ofQ (h:=wg hc i)) (hy:=Vq.ofQ (h:=KO hc hy.hq i)) Y J;have hadd:=eJ (ofQ (aq (fZ c.s c.m q) i)) (ofQ ((c.m i-cQ c.m i)*(q-c.s i))) (hx:=hsum i J) (hy:=Vq.ofQ (h:=@HQ.mul _ _ 27 (n+1+5) (wg hc i) (KO hc hy.hq i))) (by have:=eO (show i<=40 by omega) (show n+1+32+1<=100034 by omega);omega) J;rw[show aq (fZ c.s c.m q) i+(c.m i-cQ c.m i)*(q-c.s i)=aq (fZ c.s c.m q) (i+1) by rw[aq,fZ,if_neg hpos]]at hadd;exact Dm (s0:=s3.over [(4,.ptr 1004 1 0 0),(19,.clo 315 [.ptr 2002 1 0 0,.ptr 2003 1 0 0])] []) hmul hadd
 .intro i hi hor b4 bf s2 hf;have hres:aq (fZ c.s c.m q) i=kR c.S.length c.s c.m q:=yB hasc (fun k hk=>by rw[fZ,if_pos hk]) hi hor;dsimp only at hf;rw[hres]at hf;rw[<-Fit.over (l:=[]) hf];exact cA
namespace Bd
variable {b:Bd}
def gr (b:Bd)(p:Nat->Nat)(i:Nat):Rat:=b.X i-b.Kc p/b.Kh p
theorem Ov {p:Nat->Nat}(hK:b.Kh p≠0)(t t':Rat)(i:Nat):b.y (b.ln p t') t' i=b.y (b.ln p t) t i+b.gr p i*(t'-t):=by
 rw[y,y,ln,ln,gr];grind
def Cross (b:Bd)(p:Nat->Nat)(t:Rat):Prop:=∃i,i<b.N/\∃k,k<b.n i/\b.y (b.ln p t) t i=b.S i k/\b.gr p i≠0
def det (b:Bd)(p:Nat->Nat):Rat:=b.Kh p*b.Kp p-b.Kc p*b.Kc p
def Tm (b:Bd)(t:Rat):Prop:=∃p:Nat->Nat,(∀i,i<b.N->p i<=b.n i)/\b.Kh p≠0/\(b.Cross p t\/(b.eln p t=0/\b.det p≠0))
theorem Np {n:Nat}{S:Nat->Rat}{p:Nat}{y0 y1:Rat}(h:I2 n S p y0):∃s:Rat,0<=s/\s<=1/\(∀s',0<=s'->s'<=s->I2 n S p (y0+s'*(y1-y0)))/\(s=1\/∃k,k<n/\y0+s*(y1-y0)=S k/\y1≠y0):=by
 obtain⟨h1,h2,h3⟩:=h;by_cases hu:p<n/\S p<y1
 .have h4:=h3 hu.1;have hd:0<y1-y0:=bP;have hne:y1-y0≠0:=bP;have hs:(S p-y0)/(y1-y0)*(y1-y0)=S p-y0:=lG hne;refine⟨(S p-y0)/(y1-y0),?_,?_,fun s' g1 g2=>⟨h1,fun k hk=>?_,fun _=>?_⟩,.inr ⟨p,hu.1,bP,bP⟩⟩
  .rw[oD];exact j8 bP (iu (uy.2 hd))
  .by_cases hc:(S p-y0)/(y1-y0)<=1
   .exact hc
   .have:=Rat.mul_pos (show 0<(S p-y0)/(y1-y0)-1 by grind) hd;grind
  .have:=h2 k hk;have:=j8 g1 (iu hd);grind
  .have:=Rat.mul_nonneg (show 0<=(S p-y0)/(y1-y0)-s' by grind) (Rat.le_of_lt hd);grind
 .by_cases hl:∃k,p=k+1/\y1<S k
  .obtain⟨k,rfl,hk⟩:=hl;have h4:=h2 k O;have hd:0<y0-y1:=bP;have hne:y0-y1≠0:=bP;have hs:(y0-S k)/(y0-y1)*(y0-y1)=y0-S k:=lG hne;refine⟨(y0-S k)/(y0-y1),?_,?_,fun s' g1 g2=>⟨h1,fun k' hk'=>?_,fun hn=>?_⟩,.inr ⟨k,J,bP,bP⟩⟩
   .rw[oD];exact j8 bP (iu (uy.2 hd))
   .by_cases hc:(y0-S k)/(y0-y1)<=1
    .exact hc
    .have:=Rat.mul_pos (show 0<(y0-S k)/(y0-y1)-1 by grind) hd;grind
   .obtain rfl:k=k':=J;have:=Rat.mul_nonneg (show 0<=(y0-S k)/(y0-y1)-s' by grind) (Rat.le_of_lt hd);grind
   .have:=h3 hn;have:=j8 g1 (iu hd);grind
  .refine⟨1,Y,eP,fun s' g1 g2=>⟨h1,fun k hk=>?_,fun hn=>?_⟩,.inl O⟩
   .have h4:=h2 k hk;have h5:¬y1<S k:=fun hh=>hl ⟨k,hk,hh⟩;have h6:=Rat.mul_nonneg g1 (show 0<=y1-S k by grind);have h7:=Rat.mul_nonneg (show 0<=1-s' by grind) (show 0<=y0-S k by grind);grind
   .have h4:=h3 hn;have h5:¬S p<y1:=fun hh=>hu ⟨hn,hh⟩;have h6:=Rat.mul_nonneg g1 (show 0<=S p-y1 by grind);have h7:=Rat.mul_nonneg (show 0<=1-s' by grind) (show 0<=S p-y0 by grind);grind
theorem Tb {p:Nat->Nat}{t0:Rat}(hK:b.Kh p≠0)(h0:b.Inc p (b.ln p t0) t0)(t1:Rat) :
  ∃s:Rat,0<=s/\s<=1/\(∀s',0<=s'->s'<=s->b.Inc p (b.ln p (t0+s'*(t1-t0))) (t0+s'*(t1-t0)))/\(s=1\/b.Cross p (t0+s*(t1-t0))):=by
 have hy:∀s i,b.y (b.ln p (t0+s*(t1-t0))) (t0+s*(t1-t0)) i=b.y (b.ln p t0) t0 i+s*(b.y (b.ln p t1) t1 i-b.y (b.ln p t0) t0 i):=by
  intro s i;rw[Ov hK t0 (t0+s*(t1-t0)),Ov hK t0 t1];grind
 have key:∀m,m<=b.N->∃s:Rat,0<=s/\s<=1/\(∀s',0<=s'->s'<=s->∀i,i<m->I2 (b.n i) (b.S i) (p i) (b.y (b.ln p (t0+s'*(t1-t0))) (t0+s'*(t1-t0)) i))/\(s=1\/b.Cross p (t0+s*(t1-t0))):=by
  intro m
  induction m with
  |zero=>exact fun _=>⟨1,Y,eP,fun _ _ _ i hi=>by omega,.inl rfl⟩
  |succ m ih =>
   intro hm;obtain⟨s,g1,g2,g3,g4⟩:=ih J;obtain⟨s2,k1,k2,k3,k4⟩:=Np (y1:=b.y (b.ln p t1) t1 m) (h0 m J);by_cases hs:s<=s2
   .refine⟨s,g1,g2,fun s' q1 q2 i hi=>?_,g4⟩;by_cases he:i<m
    .exact g3 s' q1 q2 i he
    .obtain rfl:i=m:=J;rw[hy];exact k3 s' q1 bP
   .refine⟨s2,k1,k2,fun s' q1 q2 i hi=>?_,?_⟩
    .by_cases he:i<m
     .exact g3 s' q1 bP i he
     .obtain rfl:i=m:=J;rw[hy];exact k3 s' q1 q2
    .rcases k4 with k4|⟨k,q1,q2,q3⟩
     .exact .inl k4
     .refine .inr ⟨m,J,k,q1,by rw[hy];exact q2,fun hg=>?_⟩;have:=Ov hK t0 t1 m;rw[hg]at this;exact q3 bP
 exact key b.N (aY)
theorem vq {p:Nat->Nat}(hK:b.Kh p≠0)(t t':Rat):(b.eln p t'-b.eln p t)*b.Kh p=b.det p*(t'-t):=by
 rw[eln,eln,ln,ln,det];grind
theorem GV {p:Nat->Nat}(hK:0<b.Kh p){t0 t1:Rat}(h0:b.eln p t0<0)(h1:0<=b.eln p t1):∃s:Rat,0<s/\s<=1/\b.eln p (t0+s*(t1-t0))=0/\b.det p≠0:=by
 have hne:b.Kh p≠0:=bP;have hl:=vq hne t0 t1;have hd:0<b.eln p t1-b.eln p t0:=bP;have hd':b.eln p t1-b.eln p t0≠0:=bP;have hdet:b.det p≠0:=by
  intro h;rw[h]at hl;have:=Rat.mul_pos hd hK;grind
 have hs:(-b.eln p t0)/(b.eln p t1-b.eln p t0)*(b.eln p t1-b.eln p t0) = -b.eln p t0:=lG hd';generalize (-b.eln p t0)/(b.eln p t1-b.eln p t0)=s at *
 refine⟨s,?_,?_,?_,hdet⟩
 .by_cases hc:0<s
  .exact hc
  .have:=Rat.mul_nonneg (show 0 <= -s by grind) (Rat.le_of_lt hd);grind
 .by_cases hc:s<=1
  .exact hc
  .have:=Rat.mul_pos (show 0<s-1 by grind) hd;grind
 .have h2:=vq hne t0 (t0+s*(t1-t0));have h3:(b.eln p (t0+s*(t1-t0))-b.eln p t0-s*(b.eln p t1-b.eln p t0))*b.Kh p=0:=bP;rcases Rat.mul_eq_zero.1 h3 with h4|h4
  .grind
  .exact absurd h4 hne
theorem JM (h:b.Ok){lo hi zl zh:Rat}(hlt:lo<hi)(ll:b.Least zl lo)(lh:b.Least zh hi)(el:b.e zl lo<0)(eh:0<b.e zh hi)
  (sep:∀t t',b.Tm t->b.Tm t'->lo<=t->t<=hi->lo<=t'->t'<=hi->t=t') {p:Nat->Nat} (hp:b.Inl p zl lo) :
  ∃t,b.Bal (b.ln p t) t/\b.eln p t=0/\b.det p≠0:=by
 have hK:=ll.K h hp;have hne:b.Kh p≠0:=bP;have hzl:=ln_at h ll.1 hp.c hK;have hpc:=hp.c;rw[hzl]at hpc;have el':b.eln p lo<0:=by rw[<-Jz h hpc,<-hzl];exact el
 obtain⟨s,g1,g2,g3,g4⟩:=Tb hne hpc hi;have g5:=g3 s g1 eP;have hFb:∀t,b.Inc p (b.ln p t) t->b.eln p t=0->b.Bal (b.ln p t) t:=fun t h1 h2=>by
  refine⟨Ms h h1 hK,?_⟩;have:=Jz h h1;rw[h2,e]at this;grind
 have hple:∀i,i<b.N->p i<=b.n i:=fun i hi=>(hp i hi).1;by_cases hz:0<=b.eln p (lo+s*(hi-lo))
 .obtain⟨r,k1,k2,k3,k4⟩:=GV hK el' hz;refine⟨_,hFb _ ?_ k3,k3,k4⟩;rw[show lo+r*(lo+s*(hi-lo)-lo)=lo+r*s*(hi-lo) by grind];refine g3 _ (j8 bP g1) ?_;have:=Rat.mul_nonneg (show 0<=1-r by grind) g1;grind
 .exfalso;generalize ht1:lo+s*(hi-lo)=t1 at *
  have hin1:lo<=t1/\t1<=hi:=by
   have:=Rat.mul_nonneg g1 (show 0<=hi-lo by grind);have:=Rat.mul_nonneg (show 0<=1-s by grind) (show 0<=hi-lo by grind);grind
  have he1:b.e (b.ln p t1) t1<0:=by rw[Jz h g5];grind
  have hF1:=Ms h g5 hK;have hT1:b.Tm t1:=by
   rcases g4 with g4|g4
   .exfalso;have:t1=hi:=by rw[<-ht1,g4];grind
    rw[this]at he1 hF1;have:=Lh h (hF1.trans lh.1.symm);rw[e]at he1 eh;grind
   .exact⟨p,hple,hne,.inl g4⟩
  obtain⟨q,hq⟩:=FG h zh hi;have hKq:=lh.K h hq;have hneq:b.Kh q≠0:=bP;have hzh:=ln_at h lh.1 hq.c hKq;have hqc:=hq.c;rw[hzh]at hqc;have eh':0<b.eln q hi:=by rw[<-Jz h hqc,<-hzh];exact eh
  have hqle:∀i,i<b.N->q i<=b.n i:=fun i hi=>(hq i hi).1;obtain⟨r,k1,k2,k3,k4⟩:=Tb hneq hqc lo;generalize ht2:hi+r*(lo-hi)=t2 at *
  have hin2:lo<=t2/\t2<=hi:=by
   have:=Rat.mul_nonneg k1 (show 0<=hi-lo by grind);have:=Rat.mul_nonneg (show 0<=1-r by grind) (show 0<=hi-lo by grind);grind
  have hle:t2<=t1:=by
   rcases k4 with k4|k4
   .have:t2=lo:=by rw[<-ht2,k4];grind
    grind
   .have:=sep t1 t2 hT1 ⟨q,hqle,hneq,.inl k4⟩ hin1.1 hin1.2 hin2.1 hin2.2;grind
  have hw:0<hi-lo:=bP;have hwn:hi-lo≠0:=bP;have hs':(hi-t1)/(hi-lo)*(hi-lo)=hi-t1:=lG hwn;have hq1:b.Inc q (b.ln q t1) t1:=by
   have:=k3 ((hi-t1)/(hi-lo)) ?_ ?_
   .rwa [show hi+(hi-t1)/(hi-lo)*(lo-hi)=t1 by grind]at this
   .rw[oD];exact j8 bP (iu (uy.2 hw))
   .by_cases hc:(hi-t1)/(hi-lo)<=r
    .exact hc
    .have:=Rat.mul_pos (show 0<(hi-t1)/(hi-lo)-r by grind) hw;grind
  have hF2:=Ms h hq1 hKq;have heq:b.eln q t1<0:=by
   rw[<-Jz h hq1];have:=Lh h (hF1.trans hF2.symm);rw[e]at he1 ⊢;grind
  obtain⟨u,q1,q2,q3,q4⟩:=GV hKq heq (iu eh');have hT3:b.Tm (t1+u*(hi-t1)):=⟨q,hqle,hneq,.inr ⟨q3,q4⟩⟩;have hth:t1<hi:=by
   by_cases hc:t1=hi
   .rw[hc]at heq;grind
   .grind
  have hu:=Rat.mul_pos q1 (show 0<hi-t1 by grind);have hu2:=Rat.mul_nonneg (show 0<=1-u by grind) (show 0<=hi-t1 by grind);have:=sep t1 _ hT1 hT3 hin1.1 hin1.2 bP bP;grind
end Bd
namespace Bd
variable {b:Bd}
def lim (b:Bd)(i:Nat):Prop:=cQ (b.M i) (b.n i)=0
def cap (b:Bd)(i:Nat):Rat:=xw (b.n i) (b.S i) (b.M i)
theorem uY (x z:Rat):∃u:Rat,0<=u/\x<=u/\z<=u:=⟨gA x+gA z,by simp only[gA];grind,by simp only[gA];grind,by simp only[gA];grind⟩
theorem ou {g c B:Rat}(hg:0<g):∃u0:Rat,∀u,u0<=u->B<=c+g*u:=by
 refine⟨(B-c)/g,fun u hu=>?_⟩;have h1:(B-c)/g*g=B-c:=lG bP;have:=Rat.mul_nonneg (show 0<=u-(B-c)/g by grind) (Rat.le_of_lt hg);grind
theorem Ti (h:b.Ok){s z t:Rat}(hs:s=1\/s = -1)(hl:b.Least z t)(he:s*b.e z t<0)(hT:∀t',b.Tm t'->0<s*(t-t')) :
  ∃i0,i0<b.N/\(∀i,i<b.N->0<s*(b.X i-b.X i0)->b.lim i)/\aq (fun i=>if 0<s*(b.X i-b.X i0) then b.cap i*(s*(b.X i-b.X i0)) else 0) b.N<b.w*(s*(b.A-b.X i0)):=by
 obtain⟨p,hp⟩:=FG h z t;have hK:=hl.K h hp;have hne:b.Kh p≠0:=bP;have hz:=ln_at h hl.1 hp.c hK;have hpc:=hp.c;rw[hz]at hpc;have hple:∀i,i<b.N->p i<=b.n i:=fun i hi=>(hp i hi).1;have hss:s*s=1:=by rcases hs with rfl|rfl<;>grind
 have hall:∀u:Rat,0<=u->b.Inc p (b.ln p (t+s*u)) (t+s*u):=by
  intro u hu;obtain⟨r,g1,g2,g3,g4⟩:=Tb hne hpc (t+s*u);rcases g4 with rfl|g4
  .have:=g3 1 Y eP;rwa [show t+1*(t+s*u-t)=t+s*u by grind]at this
  .have:=hT _ ⟨p,hple,hne,.inl g4⟩;have h2:=j8 g1 hu;exfalso;have:s*(t-(t+r*(t+s*u-t))) = -(r*u)*(s*s):=bP;rw[hss]at this;grind
 have hyu:∀(u:Rat) i,b.y (b.ln p (t+s*u)) (t+s*u) i=b.y (b.ln p t) t i+(s*b.gr p i)*u:=fun u i=>by rw[Ov hne t];grind
 have hfle:∀(u:Rat) i,0<=u->i<b.N->b.k p i*(b.y (b.ln p t) t i+(s*b.gr p i)*u)-b.o p i<=b.w:=by
  intro u i hu hi;have h1:=hall u hu;rw[<-hyu,<-f_at h h1 hi,<-Ms h h1 hK];exact rI (f:=b.f (b.ln p (t+s*u)) (t+s*u)) (fun k hk=>f_nn h hk) hi
 have hup:∀i,i<b.N->0<s*b.gr p i->p i=b.n i/\b.k p i=0:=by
  intro i hi hg;have hk0:b.k p i=0:=by
   rcases dL (0<b.k p i) with hk|hk
   .exfalso;obtain⟨u0,hu0⟩:=ou (g:=b.k p i*(s*b.gr p i)) (c:=b.k p i*b.y (b.ln p t) t i-b.o p i) (B:=b.w+1) (Rat.mul_pos hk hg);obtain⟨u,h1,h2,_⟩:=uY u0 0;have:=hu0 u h2;have:=hfle u i h1 hi;grind
   .have:=P9 h hpc hi;grind
  refine⟨?_,hk0⟩;rcases bG (p i) (b.n i) with hlt|hge
  .exfalso;obtain⟨u0,hu0⟩:=ou (g:=s*b.gr p i) (c:=b.y (b.ln p t) t i) (B:=b.S i (p i)+1) hg;obtain⟨u,h1,h2,_⟩:=uY u0 0;have h3:=hu0 u h2;have h4:=((hall u h1) i hi).2.2 hlt;rw[hyu]at h4;grind
  .have:=hple i hi;omega
 have hdown:∀i,i<b.N->s*b.gr p i<0->p i=0:=by
  intro i hi hg;cases hpi:p i with
  |zero=>rfl
  |succ k =>
   exfalso;obtain⟨u0,hu0⟩:=ou (g := -(s*b.gr p i)) (c := -(b.y (b.ln p t) t i)) (B := -(b.S i k)+1) bP;obtain⟨u,h1,h2,_⟩:=uY u0 0;have h3:=hu0 u h2;have h4:=((hall u h1) i hi).2.1 k hpi;rw[hyu]at h4;grind
 obtain⟨i0,hi0,hk0⟩:=LW hK fun i hi=>P9 h hpc hi;have hg0:b.gr p i0=0:=by
  rcases dL (0<s*b.gr p i0) with hc|hc
  .have:=(hup i0 hi0 hc).2;grind
  .rcases dL (s*b.gr p i0<0) with hd|hd
   .have:=hdown i0 hi0 hd;rw[k,this,cQ]at hk0;grind
   .have h1:s*b.gr p i0=0:=bP;have:s*s*b.gr p i0=0:=by rw[Rat.mul_assoc,h1,Rat.mul_zero]
    rw[hss]at this;grind
 have hX:∀i,b.gr p i=b.X i-b.X i0:=fun i=>by
  have:=hg0;rw[gr]at this ⊢;grind
 refine⟨i0,hi0,fun i hi hc=>?_,?_⟩
 .rw[<-hX]at hc;obtain⟨h1,h2⟩:=hup i hi hc;rw[lim,<-h1];exact h2
 .have hsum:aq (fun i=>if 0<s*(b.X i-b.X i0) then b.cap i*(s*(b.X i-b.X i0)) else 0) b.N=s*(b.G0 z t-b.w*b.X i0):=by
   have h1:∀i,i<b.N->(if 0<s*(b.X i-b.X i0) then b.cap i*(s*(b.X i-b.X i0)) else 0)=(b.f z t i*b.X i-b.f z t i*b.X i0)*s:=by
    intro i hi;rcases dL (0<s*(b.X i-b.X i0)) with hc|hc
    .rw[if_pos hc];rw[<-hX]at hc;obtain⟨g1,g2⟩:=hup i hi hc;have h2:=hp.c i hi;rw[g1]at h2;have h3:=xi (h.crv i hi) h2 (by rw[<-g1];exact g2);rw[cap,<-h3,f];grind
    .rw[if_neg hc];rcases dL (s*(b.X i-b.X i0)<0) with hd|hd
     .rw[<-hX]at hd;have h2:=hp.c i hi;rw[hdown i hi hd]at h2;have h3:=IJ (h.crv i hi) h2;rw[f,h3];grind
     .have h2:s*(b.X i-b.X i0)=0:=bP;have:(b.f z t i*b.X i-b.f z t i*b.X i0)*s=b.f z t i*(s*(b.X i-b.X i0)):=bP;rw[this,h2];grind
   rw[eX h1,nY];have h2:aq (fun i=>b.f z t i*b.X i-b.f z t i*b.X i0) b.N=b.G0 z t-b.F z t*b.X i0:=by
    have:=wW (f:=fun i=>b.f z t i*b.X i) (g:=fun i=>b.f z t i*(-b.X i0)) (n:=b.N);rw[nY (f:=b.f z t)]at this;rw[G0,F];have h3:aq (fun i=>b.f z t i*b.X i-b.f z t i*b.X i0) b.N=aq (fun i=>b.f z t i*b.X i+b.f z t i*(-b.X i0)) b.N:=eX fun i _=>by grind
    rw[h3,this];grind
   rw[h2,hl.1];grind
  rw[hsum];rw[e]at he;grind
end Bd
def InR (n:Nat)(S:Nat->Rat)(p:Nat)(y:Rat):Prop:=p<=n/\(∀k,p=k+1->S k<=y)/\(p<n->y<S p)
section
variable {n:Nat}{S M:Nat->Rat}{y:Rat}{p:Nat}
theorem InR.c (h:InR n S p y):I2 n S p y:=⟨h.1,h.2.1,fun hp=>by have:=h.2.2 hp;grind⟩
theorem InR.some (h:Crv n S M)(y:Rat):∀(m:Nat),m<=n->∃p,p<=m/\(∀k,p=k+1->S k<=y)/\(p<m->y<S p)
 |0,_=>⟨0,aY,fun k hk=>by omega,fun hk=>by omega⟩
 |m+1,hm=>by
  by_cases hy:S m<=y
  .exact⟨m+1,aY,fun k hk=>by
    have:k=m:=J
    subst this;exact hy,fun hk=>by omega⟩
  .obtain⟨p,h1,h2,h3⟩:=InR.some h y m J;refine⟨p,J,h2,fun _=>?_⟩;by_cases hp:p<m
   .exact h3 hp
   .have:p=m:=J;subst this;grind
theorem InR.get (h:Crv n S M)(y:Rat):∃p,InR n S p y:=InR.some h y n (aY)
end
namespace Bd
variable {b:Bd}
theorem exclude (h:b.Ok){z t A B:Rat}(hb:b.Bal z t)(hl:∀i,i<b.N->0<A+B*b.X i->b.lim i):b.w*(A+B*b.A)<=aq (fun i=>if 0<A+B*b.X i then b.cap i*(A+B*b.X i) else 0) b.N:=by
 have h1:b.w*(A+B*b.A)=aq (fun i=>b.f z t i*(A+B*b.X i)) b.N:=by
  have h2:=wW (f:=fun i=>b.f z t i*A) (g:=fun i=>b.f z t i*b.X i*B) (n:=b.N);rw[nY (f:=b.f z t),nY (f:=fun i=>b.f z t i*b.X i)]at h2;have h3:aq (fun i=>b.f z t i*(A+B*b.X i)) b.N=aq (fun i=>b.f z t i*A+b.f z t i*b.X i*B) b.N:=eX fun i _=>by grind
  rw[h3,h2];have e1:aq (b.f z t) b.N=b.w:=hb.1;have e2:aq (fun i=>b.f z t i*b.X i) b.N=b.w*b.A:=hb.2;rw[e1,e2];grind
 rw[h1];refine uM fun i hi=>?_;have hnn:=f_nn h (z:=z) (t:=t) hi;split
 .rename_i hv;have hc:=h.crv i hi;have hle:b.f z t i<=b.cap i:=by
   obtain⟨q,hq⟩:∃q,b.y z t i<=q/\I2 (b.n i) (b.S i) (b.n i) q:=by
    cases hn:b.n i with
    |zero=>exact⟨b.y z t i,eP,⟨aY,fun k hk=>by omega,fun hk=>by omega⟩⟩
    |succ k=>exact⟨b.y z t i+gA (b.S i k-b.y z t i),by simp only[gA];grind,⟨aY,fun k' hk'=>by
      obtain rfl:k=k':=J
      simp only[gA];grind,fun hk=>by omega⟩⟩
   have:=rM hc hq.1;rw[xi hc hq.2 (hl i hi hv)]at this;exact this
  have:=Rat.mul_nonneg (show 0<=b.cap i-b.f z t i by grind) (Rat.le_of_lt hv);grind
 .rename_i hv;have:=Rat.mul_nonneg hnn (show 0 <= -(A+B*b.X i) by grind);grind
end Bd
theorem Gg (q:Rat):q*(q.den:Rat)=q.num:=by
 have hne:((q.den:Int):Rat)≠0:=fun e=>fw q (mm.1 (by simpa using e));have h:=jl q;have h2:((q.num:Rat)/((q.den:Int):Rat))*((q.den:Int):Rat)=q.num:=lG hne;rw[<-h,zU]at h2;exact h2
theorem JO {p q:Rat}{m:Nat}(hp:hq p m)(hq':hq q m)(hne:p<q):1<=(q-p)*((65536^(m+m+1):Nat):Rat):=by
 have h:=(@HQ.sub q p m m ⟨hq'⟩ ⟨hp⟩).ok;generalize hd:q-p=d at *
 have h0:0<d:=bP;have hnum:1<=d.num:=by
  have h1:=Rat.num_nonneg.2 (iu h0);have h2:d.num≠0:=fun e=>by have:=Rat.num_eq_zero.1 e;grind
  omega
 have hdd:=Gg d;have h1:(1:Rat)<=d.num:=by exact_mod_cast hnum
 have h2:(d.den:Rat)<=((65536^(m+m+1):Nat):Rat):=by exact_mod_cast mr h.2
 have h3:=FS h2 (iu h0);grind
theorem JN {q:Rat}{m:Nat}(h:hq q m):q<((65536^m:Nat):Rat) /\ -((65536^m:Nat):Rat)<q:=by
 have hdd:=Gg q;have hd1:(1:Rat)<=(q.den:Rat):=by exact_mod_cast q.den_pos
 have hab:=h.1;generalize 65536^m=V at *
 have hn:q.num<(V:Int) /\ -(V:Int)<q.num:=J;have hn1:(q.num:Rat)<((V:Nat):Rat):=by
  have:=tY.2 hn.1;rwa [zU]at this
 have hn2 : -((V:Nat):Rat)<(q.num:Rat):=by
  have:=tY.2 hn.2;rwa [Ai,zU]at this
 have hW:(0:Rat)<=((V:Nat):Rat):=by exact_mod_cast aP _
 generalize ((V:Nat):Rat)=W,(q.den:Rat)=D0 at *
 constructor
 .rcases dL (q<W) with hc|hc
  .exact hc
  .have:=Rat.mul_nonneg (show 0<=q-W by grind) (show 0<=D0 by grind);have:=Rat.mul_nonneg hW (show 0<=D0-1 by grind);grind
 .rcases dL (-W<q) with hc|hc
  .exact hc
  .have:=Rat.mul_nonneg (show 0 <= -W-q by grind) (show 0<=D0 by grind);have:=Rat.mul_nonneg hW (show 0<=D0-1 by grind);grind
namespace Bd
structure Sz (b:Bd):Prop where
 N:b.N<=10
 n:∀i,i<b.N->b.n i<=5
 X:∀i,i<b.N->hq (b.X i) 4
 C:∀i,i<b.N->hq (b.C i) 9
 S:∀i,i<b.N->∀k,k<b.n i->hq (b.S i k) 4
 M:∀i,i<b.N->∀k,k<b.n i->hq (b.M i k) 4
 w:hq b.w 4
 A:hq b.A 8
variable {b:Bd}
theorem Sz.k (h:b.Sz){p:Nat->Nat}(hp:∀i,i<b.N->p i<=b.n i){i:Nat}(hi:i<b.N):HQ (b.k p i) 4:=by
 rw[Bd.k];have h1:=hp i hi;cases hpi:p i with
 |zero=>rw[cQ];exact HQ.zero
 |succ m=>exact⟨h.M i hi m J⟩
theorem Sz.bef (h:b.Sz){i:Nat}(hi:i<b.N){k:Nat}(hk:k<b.n i):HQ (cQ (b.M i) k) 4:=by
 cases k with
 |zero=>rw[cQ];exact HQ.zero
 |succ m=>exact⟨h.M i hi m J⟩
theorem Sz.o (h:b.Sz){p:Nat->Nat}(hp:∀i,i<b.N->p i<=b.n i){i:Nat}(hi:i<b.N):HQ (b.o p i) 74:=by
 rw[Bd.o,oW];have h1:=hp i hi;have h2:=h.n i hi;refine(cd (m:=13) (p i) fun k hk=>?_).mono J;have:=h.bef hi (k:=k) J;have:HQ (b.M i k) 4:=⟨h.M i hi k J⟩;have:HQ (b.S i k) 4:=⟨h.S i hi k J⟩;show HQ ((b.M i k-cQ (b.M i) k)*b.S i k) 13;exact inferInstanceAs (HQ ((b.M i k-cQ (b.M i) k)*b.S i k) (4+4+1+4))
theorem Sz.Kh (h:b.Sz){p:Nat->Nat}(hp:∀i,i<b.N->p i<=b.n i):HQ (b.Kh p) 54:=by
 have:=h.N;exact(cd (m:=4) b.N fun i hi=>h.k hp hi).mono J
theorem Sz.Kc (h:b.Sz){p:Nat->Nat}(hp:∀i,i<b.N->p i<=b.n i):HQ (b.Kc p) 94:=by
 have:=h.N;refine(cd (m:=8) b.N fun i hi=>?_).mono J;have:=h.k hp hi;have:HQ (b.X i) 4:=⟨h.X i hi⟩;exact inferInstanceAs (HQ (b.k p i*b.X i) (4+4))
theorem Sz.Kp (h:b.Sz){p:Nat->Nat}(hp:∀i,i<b.N->p i<=b.n i):HQ (b.Kp p) 134:=by
 have:=h.N;refine(cd (m:=12) b.N fun i hi=>?_).mono J;have:=h.k hp hi;have:HQ (b.X i) 4:=⟨h.X i hi⟩;exact inferInstanceAs (HQ (b.k p i*b.X i*b.X i) (4+4+4))
theorem Sz.Fo (h:b.Sz){p:Nat->Nat}(hp:∀i,i<b.N->p i<=b.n i):HQ (b.Fo p) 894:=by
 have:=h.N;refine(cd (m:=88) b.N fun i hi=>?_).mono J;have:=h.k hp hi;have:=h.o hp hi;have:HQ (b.C i) 9:=⟨h.C i hi⟩;exact inferInstanceAs (HQ (b.k p i*b.C i-b.o p i) (4+9+74+1))
theorem Sz.Go (h:b.Sz){p:Nat->Nat}(hp:∀i,i<b.N->p i<=b.n i):HQ (b.Go p) 934:=by
 have:=h.N;refine(cd (m:=92) b.N fun i hi=>?_).mono J;have:=h.k hp hi;have:=h.o hp hi;have:HQ (b.C i) 9:=⟨h.C i hi⟩;have:HQ (b.X i) 4:=⟨h.X i hi⟩;exact inferInstanceAs (HQ ((b.k p i*b.C i-b.o p i)*b.X i) (4+9+74+1+4))
theorem Sz.Tm (h:b.Sz){t:Rat}(ht:b.Tm t):hq t 3000:=by
 obtain⟨p,hp,hK,ht⟩:=ht;have h1:=h.Kh hp;have h2:=h.Kc hp;have h3:=h.Kp hp;have h4:=h.Fo hp;have h5:=h.Go hp;have hw:HQ b.w 4:=⟨h.w⟩;have hA:HQ b.A 8:=⟨h.A⟩;rcases ht with⟨i,hi,k,hk,g1,g2⟩|⟨g1,g2⟩
 .have hX:HQ (b.X i) 4:=⟨h.X i hi⟩;have hC:HQ (b.C i) 9:=⟨h.C i hi⟩;have hS:HQ (b.S i k) 4:=⟨h.S i hi k hk⟩;have:t=(b.S i k-b.C i-(b.w-b.Fo p)/b.Kh p)/(b.X i-b.Kc p/b.Kh p):=by
   rw[Bd.y,Bd.ln]at g1;rw[Bd.gr]at g2;grind
  rw[this];have e:HQ ((b.S i k-b.C i-(b.w-b.Fo p)/b.Kh p)/(b.X i-b.Kc p/b.Kh p)) _:=inferInstance;exact cx e.ok Y
 .have:t=(b.w*b.A-b.Go p-b.Kc p*((b.w-b.Fo p)/b.Kh p))/((b.Kh p*b.Kp p-b.Kc p*b.Kc p)/b.Kh p):=by
   rw[Bd.eln,Bd.ln]at g1;rw[Bd.det]at g2;grind
  rw[this];have e:HQ ((b.w*b.A-b.Go p-b.Kc p*((b.w-b.Fo p)/b.Kh p))/((b.Kh p*b.Kp p-b.Kc p*b.Kc p)/b.Kh p)) _:=inferInstance;exact cx e.ok Y
def SzT (b:Bd):Prop:=∀t,b.Tm t->hq t 3000
theorem Sz.T (h:b.Sz):b.SzT:=fun _ ht=>h.Tm ht
end Bd
def yu (S:Nat->Rat)(y:Rat):Nat->Nat
 |0=>0
 |m+1=>if S m<y then m+1 else yu S y m
def to (S:Nat->Rat)(y:Rat):Nat->Nat
 |0=>0
 |m+1=>if S m<=y then m+1 else to S y m
theorem Cr {S:Nat->Rat}{y:Rat}:∀m,yu S y m<=m/\(∀k,yu S y m=k+1->S k<y)/\(yu S y m<m->y<=S (yu S y m))
 |0=>⟨aY,fun k hk=>by simp[yu]at hk,fun h=>by simp[yu]at h⟩
 |m+1=>by
  obtain⟨h1,h2,h3⟩:=Cr (S:=S) (y:=y) m;rw[yu];split
  .rename_i hy;exact⟨aY,fun k hk=>by
    have:k=m:=J
    subst this;exact hy,fun h=>by omega⟩
  .rename_i hy;refine⟨J,h2,fun _=>?_⟩;by_cases hp:yu S y m<m
   .exact h3 hp
   .rw[show yu S y m=m by omega];grind
theorem Cv {S:Nat->Rat}{y:Rat}:∀m,to S y m<=m/\(∀k,to S y m=k+1->S k<=y)/\(to S y m<m->y<S (to S y m))
 |0=>⟨aY,fun k hk=>by simp[to]at hk,fun h=>by simp[to]at h⟩
 |m+1=>by
  obtain⟨h1,h2,h3⟩:=Cv (S:=S) (y:=y) m;rw[to];split
  .rename_i hy;exact⟨aY,fun k hk=>by
    have:k=m:=J
    subst this;exact hy,fun h=>by omega⟩
  .rename_i hy;refine⟨J,h2,fun _=>?_⟩;by_cases hp:to S y m<m
   .exact h3 hp
   .rw[show to S y m=m by omega];grind
theorem Eg {n:Nat}{S:Nat->Rat}{y:Rat}:InL n S (yu S y n) y:=Cr n
theorem Qm {n:Nat}{S:Nat->Rat}{y:Rat}:InR n S (to S y n) y:=Cv n
theorem InL.uniq {n:Nat}{S M:Nat->Rat}(h:Crv n S M){p q:Nat}{y:Rat}(h1:InL n S p y)(h2:InL n S q y):p=q:=by
 have key:∀ {p q:Nat},InL n S p y->InL n S q y->p<q->False:=by
  intro p q h1 h2 hlt;obtain⟨k,rfl⟩:∃k,q=k+1:=⟨q-1,J⟩;have g1:=h2.2.1 k O;have g2:=h1.2.2 (by have:=h2.1;omega);have:=h.mono_st (i:=p) (j:=k) J (by have:=h2.1;omega);grind
 rcases mg p q with g|g|g
 .exact(key h1 h2 g).elim
 .exact g
 .exact(key h2 h1 g).elim
theorem InR.uniq {n:Nat}{S M:Nat->Rat}(h:Crv n S M){p q:Nat}{y:Rat}(h1:InR n S p y)(h2:InR n S q y):p=q:=by
 have key:∀ {p q:Nat},InR n S p y->InR n S q y->p<q->False:=by
  intro p q h1 h2 hlt;obtain⟨k,rfl⟩:∃k,q=k+1:=⟨q-1,J⟩;have g1:=h2.2.1 k O;have g2:=h1.2.2 (by have:=h2.1;omega);have:=h.mono_st (i:=p) (j:=k) J (by have:=h2.1;omega);grind
 rcases mg p q with g|g|g
 .exact(key h1 h2 g).elim
 .exact g
 .exact(key h2 h1 g).elim
namespace Bd
def pL (b:Bd)(z t:Rat)(i:Nat):Nat:=yu (b.S i) (b.y z t i) (b.n i)
def pR (b:Bd)(z t:Rat)(i:Nat):Nat:=to (b.S i) (b.y z t i) (b.n i)
def newt (kh kc kp fo mo:Rat):Option (Rat × Rat):=if kh*kp-kc*kc=0 then none else some ((kp*fo-kc*mo)/(kh*kp-kc*kc),(kh*mo-kc*fo)/(kh*kp-kc*kc))
def tryP (b:Bd)(z t:Rat)(p:Nat->Nat):Option (Rat × Rat):=match newt (b.Kh p) (b.Kc p) (b.Kp p) (b.w-b.F z t) (-(b.e z t)) with
 |none=>none
 |some d=>if b.F (z+d.1) (t+d.2)=b.w/\b.G0 (z+d.1) (t+d.2)=b.w*b.A then some (z+d.1,t+d.2) else none
def guess (b:Bd)(z t:Rat):Option (Rat × Rat):=match b.tryP z t (b.pR z t) with
 |some x=>some x
 |none=>b.tryP z t (b.pL z t)
noncomputable def sg (b:Bd)(t:Rat):Rat:=Classical.epsilon fun z=>b.Least z t
noncomputable def E (b:Bd)(t:Rat):Rat:=b.e (b.sg t) t
open Classical in
noncomputable def dbl (b:Bd)(s:Rat):Nat->Rat->Option Rat
 |0,_=>none
 |n+1,w=>if s*b.E (s*w)<0 then dbl b s n (w+w) else some w
noncomputable def at1 (b:Bd)(t:Rat):Option (Rat × Rat):=if b.E t=0 then some (b.sg t,t) else b.guess (b.sg t) t
noncomputable def bis (b:Bd):Nat->Rat->Rat->Option (Rat × Rat)
 |0,_,_=>none
 |n+1,lo,hi=>match b.at1 ((lo+hi)/2) with
  |some x=>some x
  |none=>if b.E ((lo+hi)/2)<0 then bis b n ((lo+hi)/2) hi else bis b n lo ((lo+hi)/2)
noncomputable def fst3 (b:Bd)(lo hi:Rat):Option (Rat × Rat):=match b.at1 0 with
 |some x=>some x
 |none=>match b.at1 lo with
  |some x=>some x
  |none=>b.at1 hi
variable {b:Bd}
theorem l7 {t:Rat}(h:∃z,b.Least z t):b.Least (b.sg t) t:=zK h
theorem sg_eq {z t:Rat}(h:b.Least z t):b.sg t=z:=Least.uniq (l7 ⟨z,h⟩) h
theorem Di {z t:Rat}{p:Nat->Nat}{x:Rat × Rat}(h:b.tryP z t p=some x):b.Bal x.1 x.2:=by
 unfold tryP at h;split at h
 .cases h
 .split at h
  .cases h;assumption
  .cases h
theorem Ht {z t:Rat}{x:Rat × Rat}(h:b.guess z t=some x):b.Bal x.1 x.2:=by
 unfold guess at h;split at h
 .rename_i hx;cases h;exact Di hx
 .exact Di h
theorem tP {t:Rat}(hl:∃z,b.Least z t){x:Rat × Rat}(h:b.at1 t=some x):b.Bal x.1 x.2:=by
 unfold at1 at h;split at h
 .rename_i he;cases h;refine⟨(l7 hl).1,?_⟩;rw[E,e]at he;show b.G0 (b.sg t) t=_;grind
 .exact Ht h
theorem DY (h:b.Ok){lo hi:Rat}(hl:∀t,∃z,b.Least z t)(hlt:lo<hi)(el:b.E lo<0)(eh:0<b.E hi)
  (sep:∀t t',b.Tm t->b.Tm t'->lo<=t->t<=hi->lo<=t'->t'<=hi->t=t'):b.guess (b.sg lo) lo≠none:=by
 have ll:=l7 (hl lo);have hp:b.Inl (b.pL (b.sg lo) lo) (b.sg lo) lo:=fun i _=>Eg;obtain⟨t,h1,h2,h3⟩:=JM h hlt ll (l7 (hl hi)) el eh sep hp;have el2:b.e (b.sg lo) lo=b.E lo:=O;rw[guess];generalize hzd:b.sg lo=z0 at *
 generalize hpd:b.pL z0 lo=p at *
 have hK:=ll.K h hp;have hne:b.Kh p≠0:=bP;have hz:=ln_at h ll.1 hp.c hK;have he:b.e z0 lo=b.eln p lo:=by
  have:=hp.c;rw[e,G_at h this,eln,<-hz]
 have htry:b.tryP z0 lo p=some (b.ln p t,t):=by
  have hel:=vq hne lo t;rw[h2]at hel;rw[det]at h3 hel;rw[tryP,newt,if_neg h3];dsimp only;have e2:lo+(b.Kh p * -(b.e z0 lo)-b.Kc p*(b.w-b.F z0 lo))/(b.Kh p*b.Kp p-b.Kc p*b.Kc p)=t:=by
   rw[ll.1,he];grind
  have e1:z0+(b.Kp p*(b.w-b.F z0 lo)-b.Kc p * -(b.e z0 lo))/(b.Kh p*b.Kp p-b.Kc p*b.Kc p)=b.ln p t:=by
   have e3:b.ln p t=z0-b.Kc p/b.Kh p*(t-lo):=by
    rw[hz,ln,ln];grind
   rw[e3,ll.1,he];grind
  rw[e1,e2];exact if_pos h1
 rw[htry];intro hn;split at hn<;>cases hn
theorem u5 (h:b.Ok)(hsz:b.SzT)(hl:∀t,∃z,b.Least z t){W:Rat}(hW:W=((65536^(3000+3000+1):Nat):Rat)):∀(n:Nat) (lo hi:Rat),lo<hi->b.E lo<0->0<b.E hi->b.guess (b.sg lo) lo=none->(hi-lo)*W<((2^n:Nat):Rat)->∃x,b.bis n lo hi=some x/\b.Bal x.1 x.2
 |0,lo,hi,hlt,el,eh,hg,hd=>by
  exfalso;have hd1:(hi-lo)*W<1:=by
   rw[Nat.pow_zero]at hd;exact hd
  have hW0:(0:Rat)<=W:=by rw[hW];exact_mod_cast aP _
  refine DY h hl hlt el eh (fun t t' ht ht' g1 g2 g3 g4=>?_) hg;have k1:=hsz _ ht;have k2:=hsz _ ht';have one:∀ {u v:Rat},hq u 3000->hq v 3000->u<v->v-u<=hi-lo->False:=by
   intro u v hu hv huv hle;have h1:=JO hu hv huv;rw[<-hW]at h1;have h2:=Rat.mul_nonneg (show 0<=(hi-lo)-(v-u) by grind) hW0;grind
  rcases dL (t<t') with hc|hc
  .exact(one k1 k2 hc bP).elim
  .rcases dL (t'<t) with hc'|hc'
   .exact(one k2 k1 hc' bP).elim
   .grind
 |n+1,lo,hi,hlt,el,eh,hg,hd=>by
  have hpow:((2^(n+1):Nat):Rat)=2*((2^n:Nat):Rat):=by
   rw[Nat.pow_succ,Rat.natCast_mul];grind
  rw[hpow]at hd;rw[bis];cases h1:b.at1 ((lo+hi)/2) with
  |some x=>exact⟨x,rfl,tP (hl _) h1⟩
  |none =>
   dsimp only;have h2:b.E ((lo+hi)/2)≠0/\b.guess (b.sg ((lo+hi)/2)) ((lo+hi)/2)=none:=by
    unfold at1 at h1;split at h1
    .cases h1
    .exact⟨‹_›,h1⟩
   split
   .rename_i hE;exact u5 h hsz hl hW n _ hi bP hE eh h2.2 bP
   .rename_i hE;exact u5 h hsz hl hW n lo _ bP el bP hg bP
def NoTip (b:Bd):Prop:=∀s:Rat,s=1\/s = -1->∀i0,i0<b.N->(∀i,i<b.N->0<s*(b.X i-b.X i0)->b.lim i)->¬aq (fun i=>if 0<s*(b.X i-b.X i0) then b.cap i*(s*(b.X i-b.X i0)) else 0) b.N<b.w*(s*(b.A-b.X i0))
theorem Bv (h:b.Ok)(hsz:b.SzT)(hl:∀t,∃z,b.Least z t)(hn:b.NoTip){s:Rat}(hs:s=1\/s = -1){K:Nat}(hK:65536^3000=2^K) :
  ∀(j k:Nat),K<=j+k->k<=K->∃m,m<=K/\b.dbl s (j+1) ((2^k:Nat):Rat)=some ((2^m:Nat):Rat)/\0<=s*b.E (s*((2^m:Nat):Rat)):=by
 intro j
 induction j with
 |zero =>
  intro k h1 h2;obtain rfl:k=K:=J;have hE:¬s*b.E (s*((2^k:Nat):Rat))<0:=by
   intro hlt;obtain⟨i0,g1,g2,g3⟩:=Ti h hs (l7 (hl _)) hlt fun t' ht'=>by
    have:=JN (hsz _ ht');rw[hK]at this;rcases hs with rfl|rfl<;>grind
   exact hn s hs i0 g1 g2 g3
  refine⟨k,aY,?_,bP⟩;rw[dbl,if_neg hE]
 |succ j ih =>
  intro k h1 h2;rw[dbl];split
  .rename_i hlt;by_cases hk:k=K
   .subst hk;exfalso;obtain⟨i0,g1,g2,g3⟩:=Ti h hs (l7 (hl _)) hlt fun t' ht'=>by
     have:=JN (hsz _ ht');rw[hK]at this;rcases hs with rfl|rfl<;>grind
    exact hn s hs i0 g1 g2 g3
   .have hp:((2^k:Nat):Rat)+((2^k:Nat):Rat)=((2^(k+1):Nat):Rat):=by rw[Nat.pow_succ,Rat.natCast_mul];grind
    rw[hp];exact ih (k+1) J J
  .exact⟨k,h2,O,bP⟩
noncomputable def eqQ (b:Bd)(n:Nat):Option (Rat × Rat):=match b.dbl (-1) n 1,b.dbl 1 n 1 with
 |some wl,some wh=>(match b.fst3 (-wl) wh with
  |some x=>some x
  |none=>b.bis n (-wl) wh)
 |_,_=>none
theorem eq_some (h:b.Ok)(hsz:b.SzT)(hl:∀t,∃z,b.Least z t)(hn:b.NoTip){K n:Nat}(hK:65536^3000=2^K){L:Nat}(hL:65536^(3000+3000+1)=2^L)(hKn:K<n)(hLn:K+1+L<n):∃x,b.eqQ n=some x/\b.Bal x.1 x.2:=by
 obtain⟨j,rfl⟩:∃j,n=j+1:=⟨n-1,J⟩;obtain⟨ml,l1,l2,l3⟩:=Bv h hsz hl hn (s := -1) (.inr O) hK j 0 J J;obtain⟨mh,g1,g2,g3⟩:=Bv h hsz hl hn (s:=1) (.inl O) hK j 0 J J;rw[show(((2:Nat)^0:Nat):Rat)=1 by rfl]at l2 g2;have hml:((2^ml:Nat):Rat)<=((2^K:Nat):Rat):=by exact_mod_cast gu Y l1
 have hmh:((2^mh:Nat):Rat)<=((2^K:Nat):Rat):=by exact_mod_cast gu Y g1
 have hml0:(0:Rat)<((2^ml:Nat):Rat):=by exact_mod_cast iZ Y
 have hmh0:(0:Rat)<((2^mh:Nat):Rat):=by exact_mod_cast iZ Y
 have hW0:(0:Rat)<((2^L:Nat):Rat):=by exact_mod_cast iZ Y
 have hWL:((2^K:Nat):Rat)*2*((2^L:Nat):Rat)<((2^(j+1):Nat):Rat):=by
  have:2^K*2*2^L<2^(j+1):=by
   rw[<-db,<-i4];exact zQ Y J
  exact_mod_cast this
 rw[eqQ,l2,g2];dsimp only;generalize ((2^ml:Nat):Rat)=wl,((2^mh:Nat):Rat)=wh,((2^K:Nat):Rat)=wk at *
 cases hf:b.fst3 (-wl) wh with
 |some x =>
  refine⟨x,O,?_⟩;unfold fst3 at hf;split at hf
  .rename_i hx;cases hf;exact tP (hl _) hx
  .split at hf
   .rename_i hx;cases hf;exact tP (hl _) hx
   .exact tP (hl _) hf
 |none =>
  dsimp only;have hno:b.at1 (-wl)=none/\b.at1 wh=none:=by
   unfold fst3 at hf;split at hf
   .cases hf
   .split at hf
    .cases hf
    .exact⟨‹_›,hf⟩
  have key:∀t,b.at1 t=none->b.E t≠0/\b.guess (b.sg t) t=none:=by
   intro t h1;unfold at1 at h1;split at h1
   .cases h1
   .exact⟨‹_›,h1⟩
  obtain⟨e1,e2⟩:=key _ hno.1;obtain⟨e3,e4⟩:=key _ hno.2;rw[show(-1:Rat)*wl = -wl by grind]at l3;rw[show(1:Rat)*wh=wh by grind]at g3;refine u5 h hsz hl (W:=((2^L:Nat):Rat)) (by rw[hL]) (j+1) (-wl) wh bP bP bP e2 ?_;have h1:=Rat.mul_nonneg (show 0<=wk-wl by grind) (Rat.le_of_lt hW0);have h2:=Rat.mul_nonneg (show 0<=wk-wh by grind) (Rat.le_of_lt hW0);generalize ((2^L:Nat):Rat)=W at *
  grind
end Bd
def ij:List (Rat × Rat)->Rat->Rat
 |[],_=>0
 |x::l,z=>x.2*gA (z-x.1)+ij l z
def qC:List (Rat × Rat)->Rat
 |[]=>0
 |x::l=>x.2+qC l
theorem nK (l m:List (Rat × Rat))(z:Rat):ij (l++m) z=ij l z+ij m z:=by
 induction l with
 |nil=>rw[List.nil_append,ij];grind
 |cons x l ih=>rw[List.cons_append,ij,ij,ih];grind
theorem Bu (l m:List (Rat × Rat)):qC (l++m)=qC l+qC m:=by
 induction l with
 |nil=>rw[List.nil_append,qC];grind
 |cons x l ih=>rw[List.cons_append,qC,qC,ih];grind
theorem HJ {l m:List (Rat × Rat)}(h:l.Perm m)(z:Rat):ij l z=ij m z:=by
 induction h with
 |nil=>rfl
 |cons x _ ih=>rw[ij,ij,ih]
 |swap x y l=>simp only[ij];grind
 |trans _ _ h1 h2=>rw[h1,h2]
theorem pV {l:List (Rat × Rat)}{z:Rat}(h:∀x∈l,z<=x.1):ij l z=0:=by
 induction l with
 |nil=>rfl
 |cons x l ih =>
  have h1:=h x ap;rw[ij,ih fun y hy=>h y (by simp[hy]),gA,if_neg bP];grind
theorem th {l:List (Rat × Rat)}{a z:Rat}(h:∀x∈l,x.1<=a)(hz:a<=z):ij l z=ij l a+qC l*(z-a):=by
 induction l with
 |nil=>simp only[ij,qC];grind
 |cons x l ih =>
  have h1:=h x ap;have e1:gA (z-x.1)=z-x.1:=by rw[gA];grind
  have e2:gA (a-x.1)=a-x.1:=by rw[gA];grind
  simp only[ij,qC];rw[ih fun y hy=>h y (by simp[hy]),e1,e2];grind
def IZ (w:Rat):List (Rat × Rat)->Rat->Rat->Rat->Rat
 |[],c,k,a=>if 0<k then a+(w-c)/k else a
 |x::l,c,k,a=>if 0<k then(if w<=c+k*(x.1-a) then a+(w-c)/k else IZ w l (c+k*(x.1-a)) (k+x.2) x.1) else IZ w l c (k+x.2) x.1
theorem OZ {Φ:Rat->Rat}{w c k a:Rat}(hm:∀x y,x<=y->Φ x<=Φ y)(ha:Φ a=c)(hc:c<w)(hk:0<k)(hu:∀z,a<=z->z<=a+(w-c)/k->Φ z=c+k*(z-a)):Φ (a+(w-c)/k)=w/\∀z',z'<a+(w-c)/k->Φ z'<w:=by
 have hq:(w-c)/k*k=w-c:=lG bP;have h0:0<=(w-c)/k:=by rw[oD];exact j8 bP (iu (uy.2 hk))
 generalize (w-c)/k=d at *
 refine⟨by rw[hu _ bP Rat.le_refl];grind,fun z' hz=>?_⟩;rcases dL (a<=z') with h|h
 .rw[hu z' h bP];have:=Rat.mul_pos hk (show 0<a+d-z' by grind);grind
 .have:=hm z' a bP;grind
theorem QO {w:Rat}{Φ:Rat->Rat}(hm:∀x y,x<=y->Φ x<=Φ y)(hw:0<w)(hex:∃z,w<=Φ z):∀(R P:List (Rat × Rat)) (c k a:Rat),(∀z,Φ z=ij P z+ij R z)->R.Pairwise (fun x y=>x.1<=y.1) ->
  ((P=[]/\c=0/\k=0)\/((∀x∈P,x.1<=a)/\(∀x∈R,a<=x.1)/\Φ a=c/\c<w/\k=qC P))->Φ (IZ w R c k a)=w/\∀z',z'<IZ w R c k a->Φ z'<w:=by
 intro R
 induction R with
 |nil =>
  intro P c k a hΦ _ h;obtain⟨z0,hz0⟩:=hex;rcases h with⟨rfl,rfl,rfl⟩|⟨h1,_,h3,h4,h5⟩
  .exfalso;rw[hΦ]at hz0;simp only[ij]at hz0;grind
  .have hline:∀z,a<=z->Φ z=c+k*(z-a):=fun z hz=>by
    have e1:=hΦ z;have e2:=hΦ a;rw[th h1 hz,<-h5]at e1;simp only[ij]at e1 e2;grind
   rw[IZ];split
   .rename_i hk;exact OZ hm h3 h4 hk fun z hz _=>hline z hz
   .rename_i hk;exfalso;rcases dL (a<=z0) with hz|hz
    .rw[hline z0 hz]at hz0;have:=Rat.mul_nonneg (show 0 <= -k by grind) (show 0<=z0-a by grind);grind
    .have:=hm z0 a bP;grind
 |cons x R ih =>
  intro P c k a hΦ hs h;rw[jq]at hs;have hΦ':∀z,Φ z=ij (P++[x]) z+ij R z:=fun z=>by
   rw[hΦ,nK];simp only[ij];grind
  rcases h with⟨rfl,rfl,rfl⟩|⟨h1,h2,h3,h4,h5⟩
  .rw[IZ,if_neg bP];refine ih ([]++[x]) 0 (0+x.2) x.1 hΦ' hs.2 (.inr ⟨fun y hy=>by simp at hy;subst hy;exact Rat.le_refl,fun y hy=>hs.1 y hy,?_,hw,by simp only[qC,List.nil_append];grind⟩);rw[hΦ,pV (l:=x::R) fun y hy=>?_]
   .simp only[ij];grind
   .rcases bV.1 hy with rfl|hy
    .exact eP
    .exact hs.1 y hy
  .have hax:=h2 x ap;have hline:∀z,a<=z->z<=x.1->Φ z=c+k*(z-a):=fun z hz hzx=>by
    have e1:=hΦ z;have e2:=hΦ a;rw[th h1 hz,<-h5,pV (l:=x::R) fun y hy=>?_]at e1
    .rw[pV (l:=x::R) fun y hy=>h2 y hy]at e2;grind
    .rcases bV.1 hy with rfl|hy
     .exact hzx
     .have:=hs.1 y hy;grind
   have hx1:=hline x.1 hax eP;have hP:∀y∈P++[x],y.1<=x.1:=fun y hy=>by
    rcases dJ.1 hy with hy|hy
    .have:=h1 y hy;grind
    .simp at hy;subst hy;exact eP
   have hcs:k+x.2=qC (P++[x]):=by rw[Bu,<-h5];simp only[qC];grind
   rw[IZ];split
   .rename_i hk;split
    .rename_i hle;refine OZ hm h3 h4 hk fun z hz hz2=>hline z hz ?_;have hq:(w-c)/k*k=w-c:=lG bP;generalize (w-c)/k=d at *
     rcases dL (z<=x.1) with hc|hc
     .exact hc
     .have:=Rat.mul_pos hk (show 0<a+d-x.1 by grind);grind
    .rename_i hlt;exact ih (P++[x]) _ _ _ hΦ' hs.2 (.inr ⟨hP,fun y hy=>hs.1 y hy,hx1,bP,hcs⟩)
   .rename_i hk;have h6:=hm a x.1 hax;have h7:=Rat.mul_nonneg (show 0 <= -k by grind) (show 0<=x.1-a by grind);exact ih (P++[x]) _ _ _ hΦ' hs.2 (.inr ⟨hP,fun y hy=>hs.1 y hy,bP,h4,hcs⟩)
namespace Bd
variable {b:Bd}
def bnd1 (b:Bd)(t:Rat)(i:Nat):List (Rat × Rat):=(List.range (b.n i)).map fun k=>(b.S i k-(b.C i+t*b.X i),b.M i k-cQ (b.M i) k)
def bnds (b:Bd)(t:Rat):List (Rat × Rat):=(List.range b.N).flatMap (b.bnd1 t)
theorem Jh (b:Bd)(z t:Rat)(i:Nat):ij (b.bnd1 t i) z=b.f z t i:=by
 have key:∀m,ij ((List.range m).map fun k=>(b.S i k-(b.C i+t*b.X i),b.M i k-cQ (b.M i) k)) z=aq (fZ (b.S i) (b.M i) (b.y z t i)) m:=by
  intro m
  induction m with
  |zero=>rfl
  |succ m ih =>
   rw[Aj,bj,nK,ih,aq,sB];simp only[cn,dp,ij];rw[show z-(b.S i m-(b.C i+t*b.X i))=b.y z t i-b.S i m by rw[y];grind];grind
 exact key (b.n i)
theorem Ji (b:Bd)(z t:Rat):ij (b.bnds t) z=b.F z t:=by
 have key:∀m,ij ((List.range m).flatMap (b.bnd1 t)) z=aq (b.f z t) m:=by
  intro m
  induction m with
  |zero=>rfl
  |succ m ih =>
   rw[Aj,ue,nK,ih,aq];simp only[j5,List.flatMap_nil,cu,Jh]
 exact key b.N
theorem settled_least (h:b.Ok){t:Rat}(hex:∃z,b.w<=b.F z t){l:List (Rat × Rat)}(hp:l.Perm (b.bnds t))(hs:l.Pairwise fun x y=>x.1<=y.1):b.Least (IZ b.w l 0 0 0) t:=by
 refine QO (Φ:=fun z=>b.F z t) (fun x y hxy=>Pt h hxy) h.pos hex l [] 0 0 0 (fun z=>?_) hs (.inl ⟨O,O,O⟩);rw[HJ hp,Ji,ij];grind
theorem M1 (_h:b.Ok)(t:Rat):∃z0:Rat,∀z,z0<=z->b.Inc b.n z t:=by
 have key:∀m,m<=b.N->∃z0:Rat,∀z,z0<=z->∀i,i<m->I2 (b.n i) (b.S i) (b.n i) (b.y z t i):=by
  intro m
  induction m with
  |zero=>exact fun _=>⟨0,fun _ _ i hi=>by omega⟩
  |succ m ih =>
   intro hm;obtain⟨z0,h1⟩:=ih J;cases hn:b.n m with
   |zero =>
    refine⟨z0,fun z hz i hi=>?_⟩;by_cases he:i<m
    .exact h1 z hz i he
    .obtain rfl:i=m:=J;exact⟨aY,fun k hk=>by omega,fun hk=>by omega⟩
   |succ k =>
    obtain⟨u,g0,g1,g2⟩:=uY z0 (b.S m k-(b.C m+t*b.X m));refine⟨u,fun z hz i hi=>?_⟩;by_cases he:i<m
    .exact h1 z bP i he
    .obtain rfl:i=m:=J;refine⟨aY,fun k' hk'=>?_,fun hk=>by omega⟩;obtain rfl:k=k':=J;rw[y];grind
 exact key b.N (aY)
theorem enough (h:b.Ok)(t:Rat)(hd:¬((∀i,i<b.N->b.lim i)/\aq b.cap b.N<b.w)):∃z,b.w<=b.F z t:=by
 obtain⟨z0,h0⟩:=M1 h t;rcases dL (∀i,i<b.N->b.lim i) with hl|hl
 .have hc:b.w<=aq b.cap b.N:=by
   rcases dL (aq b.cap b.N<b.w) with hc|hc
   .exact absurd ⟨hl,hc⟩ hd
   .grind
  refine⟨z0,?_⟩;have:b.F z0 t=aq b.cap b.N:=eX fun i hi=>xi (h.crv i hi) (h0 z0 eP i hi) (hl i hi);rw[this];exact hc
 .obtain⟨i,hi,hn⟩:∃i,i<b.N/\¬b.lim i:=by
   rcases dL (∃i,i<b.N/\¬b.lim i) with hx|hx
   .exact hx
   .exact absurd (fun i hi=>by
     rcases dL (b.lim i) with hc|hc
     .exact hc
     .exact absurd ⟨i,hi,hc⟩ hx) hl
  have hpos:0<b.k b.n i:=by
   have:=Jb (h.crv i hi) (j_ (b.n i));have h2:cQ (b.M i) (b.n i)≠0:=hn;rw[k];grind
  obtain⟨u0,hu⟩:=ou (g:=b.k b.n i) (c:=b.k b.n i*(b.C i+t*b.X i)-b.o b.n i) (B:=b.w) hpos;obtain⟨z,_,g1,g2⟩:=uY z0 u0;refine⟨z,?_⟩;have h1:=hu z g2;have h2:=f_at h (h0 z g1) hi;have h3:=rI (f:=b.f z t) (fun k hk=>f_nn h hk) hi;rw[y]at h2;rw[F];grind
end Bd
def uQ (n:Nat)(S:Nat->Rat)(y:Rat)(k:Nat):Rat:=gA (je S n y k-S k)
def Qj (n:Nat)(S M:Nat->Rat)(y:Rat)(k:Nat):Rat:=M k*(uQ n S y k*(y-S k)-uQ n S y k*uQ n S y k/2)
def Tq (n:Nat)(S M:Nat->Rat)(y:Rat):Rat:=aq (Qj n S M y) n
namespace Bd
variable {b:Bd}
def U (b:Bd)(z t:Rat):Rat:=aq (fun i=>Tq (b.n i) (b.S i) (b.M i) (b.y z t i)) b.N-b.w*(z+t*b.A)
end Bd
def lp (S M:Nat->Rat)(y:Rat)(k:Nat):Rat:=if y-S k<0 then 0 else M k-cQ M k
def Lt (n:Nat)(S M:Nat->Rat)(y:Rat):Rat:=aq (lp S M y) n
theorem NP {c:CR}(hc:c.Lim)(q:Rat)(k:Nat):HQ (lp c.s c.m q k) 27:=by
 rw[lp];split
 .exact HQ.zero.mono J
 .exact wg hc k
noncomputable def Q7:Array Tmp × Code × Code:=(td ((Tryz.f304.body).getD .skip)).getD (#[],.skip,.skip)
theorem C5 {s0:St}{q0 q2 q3 g4 g7 b4:Nat}{x2 x3 x1004:Cont}{bf V0 V1 CH FA:RR}(hadd:aU 74 [.agg (eR V0),.agg (eR CH)] (.agg (eR V1))) :
  GA Tryz.prog (s0.over [(7,.ptr 1007 g7 0 0)] []) q0 q2 q3 g4 g7 b4 19 20 Q7.2.1 Q7.2.2 x2 x3 x1004 bf V0 V1 CH FA:=by
 intro own hf uU hPost;have ho:own=(St.over { reg:=fun _ => .raw undef,own:=own } [] (O8 q0 q2 q3 g4 g7 b4 (d_ #[19,20] Q7.2.1 Q7.2.2 .ready none (s0.over [(7,.ptr 1007 g7 0 0)] []).reg) x2 x3 x1004 bf V0)).own:=congrArg St.own (Fit.over hf).symm;rw[ho];clear ho hf;generalize (St.mk (fun _ => .raw undef) own)=s1;refine H ?_;refine⟨O,?_⟩;refine G hadd ?_;refine H ?_;exact hPost _ ⟨O,O,O,O,O,O,bh⟩
theorem Iv (c:CR)(hc:c.Lim)(h0:fb c=0)(y:RR){q:Rat}{n:Nat}[hy:Vq y q n](hn:n<=100000):aU 304 [.agg (eC c),.agg (eR y)] (.tup [.agg (eR (ofQ (Lt c.S.length c.s c.m q))),I 0]):=by
 have hcc:=iR c hc;rw[h0]at hcc;obtain⟨h40,hSM,-,hasc⟩:=ic h0;have hz:=jt 0 Y Y;rw[show(((0:Int):Rat))=0 from O]at hz;have hsum:∀i,i<=40->Vq (ofQ (aq (lp c.s c.m q) i)) (aq (lp c.s c.m q) i) (i*(27+1)+4):=fun i _=>Vq.ofQ (h:=cd i fun k _=>NP hc q k);refine Ret.of_pwpR layOk mixed Go.Proofs.Tryz.func304 O Y O O O ?_;refine ax hcc ?_;refine G hz ?_;refine cV 5 ?_;refine ao (Ghost.move (k:=2) (k':=1002) (t:=2) O O O O) ?_;refine ao (Ghost.move (k:=3) (k':=1003) (t:=3) O O O O) ?_;refine ao (Ghost.move (k:=4) (k':=1004) (t:=4) O O O O) ?_;refine ao (Ghost.move (k:=7) (k':=1007) (t:=7) O O O O) ?_
 (refine cV 5 ?_;refine aR 2 ?_)
 iterate 2 refine iQ O ?_
 refine bJ ?_;refine br O (cz layOk O O Go.Proofs.Tryz.func307 O Y O O ?_);refine cV 1 ?_;refine ao (Ghost.move (k:=2) (k':=2002) (t:=2) O O O O) ?_;refine ao (Ghost.move (k:=3) (k':=2003) (t:=3) O O O O) ?_;refine H ?_;refine zt O O ?_;refine aT ?_;refine H ?_;refine aQ [(7,.ptr 1007 1 0 0),(4,.ptr 1004 1 0 0),(18,.clo 315 [.ptr 2002 1 0 0,.ptr 2003 1 0 0])] [(2002,1,⟨194,2,[eC c],2⟩),(2003,1,⟨41,4,[eR y],2⟩),(1004,1,⟨41,4,[[.bool false,.nil,.bool false,.nil]],2⟩),(1007,1,⟨41,4,[eR (ofQ 0)],2⟩)] ah ?_;intro s3;refine CB (yC (ps:=#[19,20]) (asg:=Q7.2.1) (body:=Q7.2.2) 2000 O Go.Proofs.Tryz.func315 O O O O O O ?_);generalize hq0:(s3.own 2000).1+1=q0;refine wC (q:=q) (n:=n) (q0:=q0) (q2:=1) (q3:=1) (g4:=1) (g7:=1) c hc y hy J hSM (fun i=>ofQ (aq (lp c.s c.m q) i)) _ ⟨by rw[<-hq0];rfl,O,O,O,O,bh⟩ ?_ ?_
 .intro i hi hpos b4 bf;have hadd:=eJ (ofQ (aq (lp c.s c.m q) i)) (ofQ (c.m i-cQ c.m i)) (hx:=hsum i J) (hy:=Vq.ofQ (h:=wg hc i)) J Y;rw[show aq (lp c.s c.m q) i+(c.m i-cQ c.m i)=aq (lp c.s c.m q) (i+1) by rw[aq,lp,if_neg hpos]]at hadd;exact C5 (s0:=s3.over [(4,.ptr 1004 1 0 0),(18,.clo 315 [.ptr 2002 1 0 0,.ptr 2003 1 0 0])] []) hadd
 .intro i hi hor b4 bf s2 hf;have hres:aq (lp c.s c.m q) i=Lt c.S.length c.s c.m q:=yB hasc (fun k hk=>by rw[lp,if_pos hk]) hi hor;dsimp only at hf;rw[hres]at hf;rw[<-Fit.over (l:=[]) hf];exact cA
def Weak (a b:PV):Prop:=∀(w:World) (ok:Nat->Prop) (v:Value),DRep w ok a v->DRep w ok b v
theorem Weak.rfl (a:PV):Weak a a:=fun _ _ _ h=>h
theorem Weak.nil:Weak .nil (.sl []):=fun w ok v h=>by cases h;exact .sl0 none 0
inductive WeakL:List PV->List PV->Prop
 |nil:WeakL [] []
 |cons {a b:PV} {l m:List PV}:Weak a b->WeakL l m->WeakL (a::l) (b::m)
theorem WeakL.refl:∀l,WeakL l l
 |[] => .nil
 |a::l => .cons (.rfl a) (WeakL.refl l)
theorem WeakL.spec {l m:List PV}(h:WeakL l m):l.length=m.length/\∀(i:Nat) (b:PV),m[i]?=some b->∃a,l[i]?=some a/\Weak a b:=by
 induction h with
 |nil=>exact⟨by rfl,fun i b hb=>by simp at hb⟩
 |cons h1 _ ih =>
  refine⟨by simp[ih.1],fun i b hb=>?_⟩;cases i with
  |zero=>simp at hb;subst hb;exact⟨_,by rfl,h1⟩
  |succ i=>simpa using ih.2 i b (by simpa using hb)
theorem WeakL.agg {l m:List PV}(h:WeakL l m):Weak (.agg l) (.agg m):=fun w ok v hv=>by
 cases hv with
 |agg _ vs hl hd =>
  refine .agg _ vs (by rw[<-h.spec.1];exact hl) fun i c u hc hu=>?_;obtain⟨a,ha,hw⟩:=h.spec.2 i c hc;exact hw _ _ _ (hd i a u ha hu)
theorem WeakL.tup {l m:List PV}(h:WeakL l m):Weak (.tup l) (.tup m):=fun w ok v hv=>by
 cases hv with
 |tup _ vs hl hd =>
  refine .tup _ vs (by rw[<-h.spec.1];exact hl) fun i c u hc hu=>?_;obtain⟨a,ha,hw⟩:=h.spec.2 i c hc;exact hw _ _ _ (hd i a u ha hu)
theorem Ret.weak {P:Program}{m:Mode}{f:FuncId}{pargs pargs':List PV}{r r':PV}(h:Ret P m f pargs r')(ha:WeakL pargs' pargs)(hr:Weak r' r):Ret P m f pargs' r:=by
 obtain⟨hc,h⟩:=h;refine⟨hc,fun w X args hg hX hl hargs=>?_⟩;refine(h w X args hg hX (by rw[<-ha.spec.1];exact hl) fun i c v e1 e2=>?_).mono ?_
 .obtain⟨a,e3,hw⟩:=ha.spec.2 i c e1;exact hw _ _ _ (hargs i a v e3 e2)
 .rintro e w' ⟨u,h1,h2,h3⟩;exact⟨u,h1,h2,hr _ _ _ h3⟩
def zN:List PV:=[.bool false,.nil,.bool false,.nil]
theorem fu:WeakL zN (eR RR.zero) := .cons (.rfl _) (.cons .nil (.cons (.rfl _) (.cons .nil .nil)))
theorem cO (z:Int)(h:i64 z):aU 185 [I z] (.agg (eR (ofQ (z:Rat)))):=by
 have ho:=sj z h.1 h.2;have hw:=oS (di z) (by have:=kG (z:=z) (by obtain⟨h1,h2⟩:=h;omega);omega);rw[c_]at hw;generalize ofQ (z:Rat)=X,di z=Z at *
 refine aD Proofs.Tryz.func185 ?_;refine G ho ?_;refine G hw ?_;exact cA
theorem wN (x:RR){p:Rat}{n:Nat}[hx:Vq x p n](hn:n<=8000000):aU 188 [.agg (eR x)] (I (sgn p)):=by
 have hc:=nf x RR.zero hn Y;rw[mA,uv,jI]at hc;have hc2:=hc.weak (.cons (.rfl _) (.cons fu.agg .nil)) (.rfl _);generalize sgn p=g at *
 refine aD Proofs.Tryz.func188 ?_;refine ax hc2 ?_;exact cB
theorem Cl (x y:RR){p q:Rat}{n m:Nat}[hx:Vq x p n][hy:Vq y q m](hn:n<=20000000)(hm:m<=20000000)(h0:q≠0):aU 193 [.agg (eR x),.agg (eR y)] (.agg (eR (ofQ (p/q)))):=by
 have hq:=CC x y hn hm;rw[if_neg h0]at hq;generalize ofQ (p/q)=X at *
 refine aD Proofs.Tryz.func193 ?_;refine G hq ?_;exact cA
theorem RH (x:RR){p:Rat}{n:Nat}[hx:Vq x p n](hn:n<=10000000):aU 191 [.agg (eR x)] (.agg (eR (ofQ (-p)))):=by
 have hs:=nk RR.zero x Y hn;rw[mA,Rat.zero_add]at hs;have hs2:=hs.weak (.cons fu.agg (.cons (.rfl _) .nil)) (.rfl _);generalize ofQ (-p)=X at *
 refine aD Proofs.Tryz.func191 ?_;refine G hs2 ?_;exact cA
theorem Nb (x:RR){p:Rat}{n:Nat}[hx:Vq x p n](hn:n<=10000000):aU 182 [.agg (eR x)] (.agg (eR (ofQ p))):=by
 have hs:=eJ x RR.zero J Y;rw[jI]at hs;have hs2:=hs.weak (.cons (.rfl _) (.cons fu.agg .nil)) (.rfl _);generalize ofQ p=X at *
 refine aD Proofs.Tryz.func182 ?_;refine G hs2 ?_;exact cA
structure SR.Lim (s:SR):Prop where
 x:i64 s.x
 c:s.c.sz 12
 k:s.k.Lim
def yQ (s:SR)(z t:Rat):Rat:=s.c.val+(z+t*(s.x:Rat))
theorem Ds {s:SR}(hs:s.Lim){z t:Rat}{n m:Nat}(hz:HQ z n)(ht:HQ t m):HQ (yQ s z t) (13+(n+(m+4)+1)+1):=by
 have hx:Zb s.x:=aI hs.x.1 hs.x.2;exact @HQ.add _ _ 13 (n+(m+4)+1) hs.c.v.hq (@HQ.add _ _ n (m+4) hz (@HQ.mul _ _ m 4 ht HQ.int))
structure AR where
 z:RR
 t:RR
def eA (a:AR):List PV:=eR a.z++eR a.t
class Va (a:AR) (z t:outParam Rat) (n m:outParam Nat):Prop where
 z:Vq a.z z n
 t:Vq a.t t m
theorem rY (s:SR)(hs:s.Lim)(a:AR){z t:Rat}{n m:Nat}[ha:Va a z t n m](hn:n<=1000000)(hm:m<=1000000):aU 268 [.agg (eS s),.agg (eA a)] (.agg (eR (ofQ (yQ s z t)))):=by
 have hx:Zb s.x:=aI hs.x.1 hs.x.2;have hzh:=ha.z.hq;have hth:=ha.t.hq;have hw:=cO s.x hs.x;have h1:=iE a.t (ofQ (s.x:Rat)) (hx:=ha.t) J Y;have v1:Vq (ofQ (t*(s.x:Rat))) (t*(s.x:Rat)) (m+1+4):=Vq.ofQ (h:=@HQ.mul _ _ (m+1) 4 hth HQ.int);have h2:=eJ a.z (ofQ (t*(s.x:Rat))) (hx:=ha.z) (hy:=v1) J J;have v2:Vq (ofQ (z+t*(s.x:Rat))) (z+t*(s.x:Rat)) (n+1+(m+1+4)+1):=Vq.ofQ (h:=@HQ.add _ _ (n+1) (m+1+4) hzh (@HQ.mul _ _ (m+1) 4 hth HQ.int));have h3:=eJ s.c (ofQ (z+t*(s.x:Rat))) (hx:=hs.c.v) (hy:=v2) Y J;rw[yQ];obtain⟨x,c,k⟩:=s;obtain⟨az,at'⟩:=a;simp only at *
 generalize ofQ (c.val+(z+t*(x:Rat)))=X3,ofQ (z+t*(x:Rat))=X2,ofQ (t*(x:Rat))=X1,ofQ (x:Rat)=X0 at *
 refine aD Proofs.Tryz.func268 ?_;refine cX 12 [5,6,7,8,9,10,11,12,13,14,15,16] ?_;refine G hw ?_;refine G h1 ?_;refine G h2 ?_;refine G h3 ?_;exact cA
def fQ (s:SR)(z t:Rat):Rat:=kR s.k.S.length s.k.s s.k.m (yQ s z t)
theorem Hs (s:SR)(hs:s.Lim)(hk:fb s.k=0)(a:AR){z t:Rat}{n m:Nat}[ha:Va a z t n m](hn:n+m<=90000):aU 199 [.agg (eS s),.agg (eA a)] (.agg (eR (ofQ (fQ s z t)))):=by
 have h1:=rY s hs a J J;have v1:Vq (ofQ (yQ s z t)) (yQ s z t) (13+(n+1+(m+1+4)+1)+1):=Vq.ofQ (h:=Ds hs ha.z.hq ha.t.hq);have h2:=IK s.k hs.k hk (ofQ (yQ s z t)) (hy:=v1) J;rw[fQ];generalize ofQ (kR s.k.S.length s.k.s s.k.m (yQ s z t))=X2,ofQ (yQ s z t)=X1 at *
 obtain⟨x,c,k⟩:=s;obtain⟨az,at'⟩:=a;simp only at *
 refine aD Proofs.Tryz.func199 ?_;refine H ?_;refine bL [5] [9,10] aH ?_;refine G h1 ?_;refine G h2 ?_;exact cA
theorem M3 (x:Int):aU 253 [I x] (.bool (decide (x < -1000000\/1000000<x))):=by
 by_cases h1:x < -1000000
 .rw[decide_eq_true (.inl h1)];refine aD Proofs.Tryz.func253 ?_;refine fi ?_ ?_<;>intro h
  .exact kU
  .exact absurd h1 (bS h)
 .rw[show decide (x < -1000000\/1000000<x)=decide (1000000<x) by rw[decide_eq_decide];omega];refine aD Proofs.Tryz.func253 ?_;refine fi ?_ ?_<;>intro h
  .exact absurd (bk h) h1
  .exact kU
theorem u4 (x:RR){p:Rat}{m:Nat}[hx:Vq x p m](hm:m<=1000000)(n:Int)(h0:0<=n)(h1:n<=1000000000):aU 183 [.agg (eR x),I n] (.bool (decide (p < -(n:Rat)\/(n:Rat)<p))):=by
 have hw1:=cO (-n) ⟨J,J⟩;have hw2:=cO n ⟨J,J⟩;have z1:Zb (-n):=aI J J;have z2:Zb n:=aI J J;have hc1:=nf x (ofQ ((-n:Int):Rat)) J Y;have hc2:=nf x (ofQ (n:Rat)) J Y;have hn:IntKind.i64.wrap (0-n) = -n:=by rw[wrap_i64 J J];omega
 have e1:=eW (p-((-n:Int):Rat));have e2:=kO (p-(n:Rat));have en:(((-n:Int)):Rat) = -(n:Rat):=by push_cast;rfl
 have key:decide (p < -(n:Rat)\/(n:Rat)<p)=(decide (sgn (p-((-n:Int):Rat))<0)||decide (0<sgn (p-(n:Rat)))):=by
  rw[<-Bool.decide_or,decide_eq_decide,e1,e2,en];constructor
  .rintro(h|h)
   .left;grind
   .right;grind
  .rintro(h|h)
   .left;grind
   .right;grind
 rw[key];generalize sgn (p-((-n:Int):Rat))=g1,sgn (p-(n:Rat))=g2,ofQ ((-n:Int):Rat)=W1,ofQ (n:Rat)=W2 at *
 refine aD Proofs.Tryz.func183 ?_;refine cX 14 [5,6,7,8,9,10,11,12,13,14,15,16,17,4] ?_;refine H ?_;rw[hn];refine oJ O O O hw1 O O ?_;refine ax hc1 ?_;refine fi ?_ ?_<;>intro h
 .rw[h];clear h;exact kU
 .rw[h];clear h;refine G hw2 ?_;refine ax hc2 ?_;exact kU
def fK {α:Type}(f:α->Int):List α->Int
 |[]=>0
 |s::r=>if f s=0 then fK f r else f s
theorem BF {α:Type}(f:α->Int){l:List α}{i:Nat}{s:α}(h:l[i]?=some s):fK f (l.drop i)=if f s=0 then fK f (l.drop (i+1)) else f s:=by
 obtain⟨hl,rfl⟩:=cb h;rw[jm hl,fK]
theorem pH {α:Type}{f:α->Int}:∀ {l:List α},fK f l=0->∀s∈l,f s=0
 |[],_,s,hs=>by cases hs
 |a::l,h,s,hs=>by
  rw[fK]at h;by_cases ha:f a=0
  .rw[if_pos ha]at h;rcases bV.1 hs with rfl|hs
   .exact ha
   .exact pH h s hs
  .rw[if_neg ha]at h;exact absurd h ha
def rJ (s:SR):Int:=if (s.x < -1000000\/1000000<s.x)\/(s.c.val < -((10000000:Int):Rat)\/((10000000:Int):Rat)<s.c.val) then 2 else fb s.k
def ej (l:List SR):Int:=if 100<l.length then 8 else fK rJ l
def l8 (l:List SR):Prop:=(∀s∈l,s.Lim)/\l.length<=1000000000
theorem xY (l:List SR)(hl:l8 l):aU 184 [.sl (l.map eS)] (I (ej l)):=by
 have hml:(l.map eS).length=l.length:=ap;generalize hE:ej l=E;rw[ej]at hE;obtain⟨hs,hll⟩:=hl;refine aD Proofs.Tryz.func184 ?_;refine D ?_ ?_<;>intro h
 .have h1:=bk h;rw[if_pos J]at hE;subst hE;exact cB
 have h1:¬100<l.length:=by have h1:=bS h;omega
 clear h;rw[if_neg h1]at hE;refine H ?_;refine ai (fun i:Nat=>i<=l.length/\fK rJ (l.drop i)=E) (fun i=>[(9,.sl (l.map eS)),(10,I l.length),(11,I (i:Nat))]) (fun _=>[]) (fun i=>l.length-i) 0 ⟨aP _,by rw[fO];exact hE⟩ ⟨O,by rw[<-hml];rfl,O,bh⟩ ?_;intro i s ⟨hi,hF⟩;refine D ?_ ?_<;>intro h
 .have hlt:i<l.length:=cw h;clear h;obtain⟨x,hx⟩:=ay hlt;have hx':=hs x (bC hx);rw[BF _ hx]at hF;have hfa:=M3 x.x;have hbe:=u4 x.c (hx:=hx'.c.v) Y 10000000 Y Y;have hcc:=iR x.k hx'.k;have hw:=dN i;have hse:rJ x=rJ x:=O
  conv at hse=>rhs;rw[rJ]
  generalize rJ x=se,fb x.k=ce at *
  by_cases hq1:x.x < -1000000\/1000000<x.x
  .rw[decide_eq_true hq1]at hfa;rw[if_pos (.inl hq1)]at hse;subst hse;rw[if_neg Y]at hF;subst hF;refine aN hx ?_;refine ax hfa ?_;exact cB
  rw[decide_eq_false hq1]at hfa;by_cases hq2:x.c.val < -((10000000:Int):Rat)\/((10000000:Int):Rat)<x.c.val
  .rw[decide_eq_true hq2]at hbe;rw[if_pos (.inr hq2)]at hse;subst hse;rw[if_neg Y]at hF;subst hF;refine aN hx ?_;refine ax hfa ?_;refine ax hbe ?_;exact cB
  rw[decide_eq_false hq2]at hbe;rw[if_neg (fun h=>h.elim hq1 hq2)]at hse;subst hse;refine aN hx ?_;refine ax hfa ?_;refine ax hbe ?_;refine ax hcc ?_;refine D ?_ ?_<;>intro h
  .have h2:se≠0:=by simpa using h
   clear h;rw[if_neg h2]at hF;subst hF;exact cB
  .have h2:se=0:=by simpa using h
   clear h;rw[if_pos h2]at hF;refine H ?_;exact⟨i+1,⟨J,hF⟩,J,O,O,congrArg I hw,bh⟩
 .have hie:i=l.length:=co h;clear h;rw[hie,gX,fK]at hF;subst hF;exact cB
theorem bR {α:Type}{l:List α}{k:Nat}{x:α}(hx:l[k]?=some x):l.take (k+1)=l.take k++[x]:=by
 rw[q_,hx];rfl
structure BR.Lim (b:BR):Prop where
 w:i64 b.w
 a:b.a.sz 12
 l:l8 b.l
def dP (b:BR):Int:=if (b.w<1\/1000000000<b.w)\/(b.a.val < -((1000000:Int):Rat)\/((1000000:Int):Rat)<b.a.val) then 2 else ej b.l
theorem ia (b:BR)(hb:b.Lim):aU 118 [.agg (eB b)] (I (dP b)):=by
 have hbe:=u4 b.a (hx:=hb.a.v) Y 1000000 Y Y;have hc:=xY b.l hb.l;generalize hE:dP b=E;rw[dP]at hE;obtain⟨w,a,l⟩:=b;simp only at *
 generalize ej l=ce at *
 by_cases h1:w<1
 .rw[if_pos (.inl (.inl h1))]at hE;subst hE;refine aD Proofs.Tryz.func118 ?_;refine fi ?_ ?_<;>intro h
  .exact cB
  .exact absurd h1 (bS h)
 by_cases h2:1000000000<w
 .rw[if_pos (.inl (.inr h2))]at hE;subst hE;refine aD Proofs.Tryz.func118 ?_;refine fi ?_ ?_<;>intro h
  .exact cB
  .clear h;refine fi ?_ ?_<;>intro h
   .exact cB
   .exact absurd h2 (bS h)
 by_cases h3:a.val < -((1000000:Int):Rat)\/((1000000:Int):Rat)<a.val
 .rw[decide_eq_true h3]at hbe;rw[if_pos (.inr h3)]at hE;subst hE;refine aD Proofs.Tryz.func118 ?_;refine fi ?_ ?_<;>intro h
  .exact cB
  .clear h;refine fi ?_ ?_<;>intro h
   .exact cB
   .clear h;refine ax hbe ?_;exact cB
 .rw[decide_eq_false h3]at hbe;rw[if_neg (fun h=>h.elim (fun h=>h.elim h1 h2) h3)]at hE;subst hE;refine aD Proofs.Tryz.func118 ?_;refine fi ?_ ?_<;>intro h
  .exact absurd (bk h) h1
  .clear h;refine fi ?_ ?_<;>intro h
   .exact absurd (bk h) h2
   .clear h;refine ax hbe ?_;refine ax hc ?_;exact cB
theorem xy (l:List SR)(hl:l8 l)(hc:ej l=0)(f:FuncId)(caps:List PV)(hcaps:∃c,caps=[.dref c 0])(g:SR->RR)(hg:∀s∈l,aU f [.agg (eS s),caps.headD .nil] (.agg (eR (g s)))) :
  aU 197 [.sl (l.map eS),.clo f caps] (.tup [.sl ((l.map g).map eR),I 0]):=by
 have hck:=xY l hl;rw[hc]at hck;have hml:(l.map eS).length=l.length:=ap;obtain⟨cc,rfl⟩:=hcaps;simp only[List.headD_cons]at hg;refine aD Proofs.Tryz.func197 ?_;refine ax hck ?_;refine H ?_;refine ao (Ghost.nilreg (k:=7) (t:=7) 41 4 1 O O) ?_;have hrows:∀(k:Nat) x,l[k]?=some x->((l.take (k+1)).map g).map eR=((l.take k).map g).map eR++[eR (g x)]:=fun k x hx=>by rw[bR hx,bj,bj];rfl
 refine ai (fun k=>k<=l.length) (fun k=>[(1,.clo f [.dref cc 0]),(7,.als 7 (k+1) 0 (((l.take k).map g).map eR).length),(15,.sl (l.map eS)),(16,I l.length),(17,I k)]) (fun k=>[(7,k+1,⟨41,4,((l.take k).map g).map eR,1⟩)]) (fun k=>l.length-k) 0 (aP _) ⟨O,O,O,by rw[<-hml];rfl,ah⟩ ?_;intro k s hk;refine D ?_ ?_<;>intro h
 .have hlt:k<l.length:=cw h;clear h;obtain⟨x,hx⟩:=ay hlt;have hgx:=hg x (bC hx);have hw:IntKind.i64.wrap (((k:Nat):Int)+1)=((k+1:Nat):Int):=by have:=hl.2;rw[wrap_i64 J J];omega
  have hll:=hl.2;refine aN hx ?_;refine G hgx ?_;refine H ?_;refine aC (bb 1 O O O O O O O O O O O ah O ?_);refine H ?_;refine aC (bO 1 O O O O O O O O O O O ah fW O O aS aS ?_);refine H ?_;refine⟨k+1,hlt,J,O,?_,O,O,congrArg I hw,?_,bh⟩
  .rw[hrows k x hx];rfl
  .rw[hrows k x hx];rfl
 .have hge:k=l.length:=co h;clear h;refine H ?_;exact DU O ah O ah (by rw[hge,bI];rfl)
theorem BG (s:SR)(hs:s.Lim)(hk:fb s.k=0)(a:AR){z t:Rat}{n m:Nat}[ha:Va a z t n m](hn:n+m<=90000):aU 198 [.agg (eS s),.dref (eA a) 0] (.agg (eR (ofQ (fQ s z t)))):=by
 have h1:=Hs s hs hk a hn;generalize ofQ (fQ s z t)=X at *
 obtain⟨x,c,k⟩:=s;obtain⟨az,at'⟩:=a;try simp only at *
 refine aD Proofs.Tryz.func198 ?_;refine G h1 ?_;exact cA
theorem fk {l:List SR}(h:ej l=0):∀s∈l,fb s.k=0:=by
 intro s hs;rw[ej]at h;split at h
 .omega
 .have:=pH h s hs;rw[rJ]at this;split at this
  .omega
  .exact this
def FL (l:List SR)(z t:Rat):List RR:=l.map fun s=>ofQ (fQ s z t)
theorem pI (l:List SR)(hl:l8 l)(hc:ej l=0)(a:AR){z t:Rat}{n m:Nat}[ha:Va a z t n m](hn:n+m<=90000):aU 122 [.sl (l.map eS),.agg (eA a)] (.tup [.sl ((FL l z t).map eR),I 0]):=by
 have h1:=xy l hl hc 198 [.dref (eA a) 0] ⟨_,O⟩ (fun s=>ofQ (fQ s z t)) fun s hs=>BG s (hl.1 s hs) (fk hc s hs) a hn;rw[<-FL]at h1;generalize FL l z t=X at *
 obtain⟨az,at'⟩:=a;refine aD Proofs.Tryz.func122 ?_;refine cV 1 ?_;refine ao (Ghost.data (k:=3) (t:=3) O O O O) ?_;refine G h1 ?_;exact cA
def xt (l:List SR):Prop:=l.length<=12/\∀s∈l,s.k.S.length<=8
theorem FD {s:SR}(hs:s.Lim)(h8:s.k.S.length<=8){z t:Rat}{n m:Nat}(hz:HQ z n)(ht:HQ t m):HQ (fQ s z t) (8*(n+m+60)+4):=by
 rw[fQ,kR];exact(cd s.k.S.length fun k _=>Gz hs.k (Ds hs hz ht) k).mono (by have:=eO h8 (show 13+(n+(m+4)+1)+1+32+1<=n+m+60 by omega);omega)
def dS:SR:=⟨0,RR.zero,⟨[],[]⟩⟩
def bd (b:BR):Bd:={ N:=b.l.length,X:=fun i=>((b.l.getD i dS).x:Rat),C:=fun i=>(b.l.getD i dS).c.val,n:=fun i=>(b.l.getD i dS).k.S.length,S:=fun i=>(b.l.getD i dS).k.s,M:=fun i=>(b.l.getD i dS).k.m,w:=b.w,A:=b.a.val }
def fI (l:List SR)(z t:Rat)(i:Nat):Rat:=fQ (l.getD i dS) z t
def gI (l:List SR)(z t:Rat)(i:Nat):Rat:=fQ (l.getD i dS) z t*((l.getD i dS).x:Rat)
theorem bU {l:List SR}{i:Nat}(h:i<l.length):l.getD i dS∈l:=bC (bF h)
theorem IF (l:List SR)(hl:l8 l)(hf:xt l){z t:Rat}{n m:Nat}(hz:HQ z n)(ht:HQ t m)(hn:n+m<=100000):aU 300 [.sl (l.map eS),.sl ((FL l z t).map eR)] (.agg (eR (ofQ (aq (fI l z t) l.length))++eR (ofQ (aq (gI l z t) l.length)))):=by
 have hw0:=cO 0 ⟨Y,Y⟩;rw[show(((0:Int):Rat))=0 from O]at hw0;have hml:(l.map eS).length=l.length:=ap;have hFl:((FL l z t).map eR).length=l.length:=by simp[FL]
 have hFH:∀i,i<l.length->HQ (fI l z t i) (8*(n+m+60)+4):=fun i hi=>FD (hl.1 _ (bU hi)) (hf.2 _ (bU hi)) hz ht;have hGH:∀i,i<l.length->HQ (gI l z t i) (8*(n+m+60)+4+4):=fun i hi=>by
  have hx:=(hl.1 _ (bU hi)).x;have hx:Zb (l.getD i dS).x:=aI hx.1 hx.2;exact @HQ.mul _ _ _ 4 (hFH i hi) HQ.int
 have hB:∀i,i<=l.length->i*(8*(n+m+60)+4+4+1)+4<=12000000:=fun i hi=>by
  have:=hf.1;have:=eO (show i<=12 by omega) (show 8*(n+m+60)+4+4+1<=800489 by omega);omega
 refine aD Proofs.Tryz.func300 ?_;refine G hw0 ?_;refine G hw0 ?_;refine H ?_;refine ai (fun i:Nat=>i<=l.length) (fun i=>[(1,.sl ((FL l z t).map eR)),(4,.ptr 4 1 0 0),(5,.ptr 5 1 0 0),(11,.sl (l.map eS)),(12,I l.length),(13,I (i:Nat))])
  (fun i=>[(4,1,⟨237,8,[zN++zN],2⟩),(5,1,⟨237,8,[eR (ofQ (aq (fI l z t) i))++eR (ofQ (aq (gI l z t) i))],2⟩)]) (fun i=>l.length-i) 0 (aP _) ⟨O,O,O,O,by rw[<-hml];rfl,ah⟩ ?_
 intro i s hi;refine D ?_ ?_<;>intro h
 .have hlt:i<l.length:=cw h;clear h;have hx:=bF (d:=dS) hlt;have hFi:(FL l z t)[i]?=some (ofQ (fI l z t i)):=by rw[FL,bw,hx];rfl
  have hxx:=(hl.1 _ (bU hlt)).x;have hzb:Zb (l.getD i dS).x:=aI hxx.1 hxx.2;have hw:IntKind.i64.wrap (((i:Nat):Int)+1)=((i+1:Nat):Int):=by have:=hf.1;rw[wrap_i64 J J];omega
  have hBi:=hB i hi;have v0:Vq (ofQ (fI l z t i)) (fI l z t i) (8*(n+m+60)+4):=Vq.ofQ (h:=hFH i hlt);have vg:Vq (ofQ (gI l z t i)) (gI l z t i) (8*(n+m+60)+4+4):=Vq.ofQ (h:=hGH i hlt);have v1:Vq (ofQ (aq (fI l z t) i)) (aq (fI l z t) i) (i*(8*(n+m+60)+4+1)+4):=Vq.ofQ (h:=cd i fun k hk=>hFH k J);have v2:Vq (ofQ (aq (gI l z t) i)) (aq (gI l z t) i) (i*(8*(n+m+60)+4+4+1)+4):=Vq.ofQ (h:=cd i fun k hk=>hGH k J);have h1:=eJ (ofQ (aq (fI l z t) i)) (ofQ (fI l z t i)) (hx:=v1) (hy:=v0) (by have:=eO (j_ i) (show 8*(n+m+60)+4+1<=8*(n+m+60)+4+4+1 by omega);omega) J;have h2:=cO (l.getD i dS).x hxx;have h3:=iE (ofQ (fI l z t i)) (ofQ ((l.getD i dS).x:Rat)) (hx:=v0) J Y;have h4:=eJ (ofQ (aq (gI l z t) i)) (ofQ (gI l z t i)) (hx:=v2) (hy:=vg) J J;rw[show aq (fI l z t) i+fI l z t i=aq (fI l z t) (i+1) from O]at h1;rw[show aq (gI l z t) i+gI l z t i=aq (gI l z t) (i+1) from O]at h4;rw[show fI l z t i*((l.getD i dS).x:Rat)=gI l z t i from O]at h3;generalize hF1:ofQ (aq (fI l z t) (i+1))=F1 at *
  generalize hG1:ofQ (aq (gI l z t) (i+1))=G1 at *
  generalize ofQ (aq (fI l z t) i)=F0,ofQ (aq (gI l z t) i)=G0 at *
  refine aN hx ?_;refine cX 8 [18,19,20,21,22,23,24,25] ?_;refine aN hFi ?_;refine G h1 ?_;refine cX 12 [26,27,28,29,30,31,32,33,34,35,36,37] ?_;refine aN hFi ?_;refine G h2 ?_;refine G h3 ?_;refine G h4 ?_;refine H ?_;refine⟨i+1,hlt,J,O,O,O,O,O,congrArg I hw,O,?_,bh⟩;show(_:Nat × Option Cont)=(1,some (Cont.mk 237 8 [eR (ofQ (aq (fI l z t) (i+1)))++eR (ofQ (aq (gI l z t) (i+1)))] 2));rw[hF1,hG1];rfl
 .have hie:i=l.length:=co h;clear h;subst hie;exact cA
structure BR.Ok (b:BR):Prop where
 lim:b.Lim
 chk:dP b=0
 few:xt b.l
theorem Bo {b:BR}(h:dP b=0):1<=b.w/\b.w<=1000000000/\ej b.l=0:=by
 rw[dP]at h;split at h
 .omega
 .rename_i h1;exact⟨J,J,h⟩
theorem BR.Ok.chkL {b:BR}(h:b.Ok):ej b.l=0:=(Bo h.chk).2.2
theorem Mr {l:List SR}(hl:l8 l)(hf:xt l){z t:Rat}{n m:Nat}(hz:HQ z n)(ht:HQ t m):HQ (aq (fI l z t) l.length) (96*(n+m+60)+200) :=
 (cd l.length fun i hi=>FD (hl.1 _ (bU hi)) (hf.2 _ (bU hi)) hz ht).mono (by have:=eO hf.1 (j_ (8*(n+m+60)+4+1));omega)
theorem Mt {l:List SR}(hl:l8 l)(hf:xt l){z t:Rat}{n m:Nat}(hz:HQ z n)(ht:HQ t m):HQ (aq (gI l z t) l.length) (96*(n+m+60)+200) :=
 (cd (m:=8*(n+m+60)+4+4) l.length fun i hi=>by
  have hx:=(hl.1 _ (bU hi)).x;have hx:Zb (l.getD i dS).x:=aI hx.1 hx.2
  exact @HQ.mul _ _ _ 4 (FD (hl.1 _ (bU hi)) (hf.2 _ (bU hi)) hz ht) HQ.int).mono (by have:=eO hf.1 (j_ (8*(n+m+60)+4+4+1));omega)
theorem qj (l:List SR)(hl:l8 l)(hc:ej l=0)(hf:xt l)(a:AR){z t:Rat}{n m:Nat}[ha:Va a z t n m](hn:n+m<=90000) :
  aU 258 [.sl (l.map eS),.agg (eA a)] (.tup [.agg (eR (ofQ (aq (fI l z t) l.length))++eR (ofQ (aq (gI l z t) l.length))),I 0]):=by
 have h1:=pI l hl hc a hn;have h2:=IF l hl hf ha.z.hq ha.t.hq J;generalize ofQ (aq (fI l z t) l.length)=X1,ofQ (aq (gI l z t) l.length)=X2,FL l z t=L at *
 obtain⟨az,at'⟩:=a;refine aD Proofs.Tryz.func258 ?_;refine G h1 ?_;refine G h2 ?_;exact cA
theorem Dn {b:BR}(hb:b.Ok):HQ ((b.w:Rat)*b.a.val) 17:=by
 have hw:Zb b.w:=aI hb.lim.w.1 hb.lim.w.2;exact @HQ.mul _ _ 4 13 HQ.int hb.lim.a.v.hq
theorem vA (b:BR)(hb:b.Ok)(a:AR){z t:Rat}{n m:Nat}[ha:Va a z t n m](hn:n+m<=60000):aU 189 [.agg (eB b),.agg (eA a)] (.agg (eR (ofQ ((bd b).e z t)))):=by
 have h1:=qj b.l hb.lim.l hb.chkL hb.few a J;have h2:=cO b.w hb.lim.w;have hw:Zb b.w:=aI hb.lim.w.1 hb.lim.w.2;have h3:=iE (ofQ (b.w:Rat)) b.a (hy:=hb.lim.a.v) Y Y;have v1:Vq (ofQ (aq (gI b.l z t) b.l.length)) (aq (gI b.l z t) b.l.length) (96*(n+1+(m+1)+60)+200):=Vq.ofQ (h:=Mt hb.lim.l hb.few ha.z.hq ha.t.hq);have v2:Vq (ofQ ((b.w:Rat)*b.a.val)) ((b.w:Rat)*b.a.val) 17:=Vq.ofQ (h:=Dn hb);have h4:=nk (ofQ (aq (gI b.l z t) b.l.length)) (ofQ ((b.w:Rat)*b.a.val)) (hx:=v1) (hy:=v2) J Y;rw[show aq (gI b.l z t) b.l.length-(b.w:Rat)*b.a.val=(bd b).e z t from O]at h4;generalize ofQ ((bd b).e z t)=X0,ofQ (aq (fI b.l z t) b.l.length)=X1,ofQ (aq (gI b.l z t) b.l.length)=X2,ofQ ((b.w:Rat)*b.a.val)=X3,ofQ (b.w:Rat)=X4 at *
 obtain⟨w,ba,l⟩:=b;obtain⟨az,at'⟩:=a;simp only at *
 refine aD Proofs.Tryz.func189 ?_;refine G h1 ?_;refine cX 9 [14,15,16,17,18,19,20,21,22] ?_;refine G h2 ?_;refine G h3 ?_;refine G h4 ?_;exact cA
theorem PN {b:BR}(hb:b.Ok){z t:Rat}{n m:Nat}(hz:HQ z n)(ht:HQ t m):HQ ((bd b).e z t) (96*(n+m+60)+200+17+1):=@HQ.sub _ _ _ 17 (Mt hb.lim.l hb.few hz ht) (Dn hb)
instance (b:Bd) (z t:Rat):Decidable (b.Bal z t):=inferInstanceAs (Decidable (_/\_))
theorem y7 (b:BR)(hb:b.Ok)(a:AR){z t:Rat}{n m:Nat}[ha:Va a z t n m](hn:n+m<=60000):aU 264 [.agg (eB b),.agg (eA a)] (.bool (decide ((bd b).Bal z t))):=by
 have h1:=qj b.l hb.lim.l hb.chkL hb.few a J;have h2:=cO b.w hb.lim.w;have hw:Zb b.w:=aI hb.lim.w.1 hb.lim.w.2;have v0:Vq (ofQ (aq (fI b.l z t) b.l.length)) (aq (fI b.l z t) b.l.length) (96*(n+1+(m+1)+60)+200):=Vq.ofQ (h:=Mr hb.lim.l hb.few ha.z.hq ha.t.hq);have h5:=nf (ofQ (aq (fI b.l z t) b.l.length)) (ofQ (b.w:Rat)) (hx:=v0) J Y;have h3:=iE (ofQ (b.w:Rat)) b.a (hy:=hb.lim.a.v) Y Y;have v1:Vq (ofQ (aq (gI b.l z t) b.l.length)) (aq (gI b.l z t) b.l.length) (96*(n+1+(m+1)+60)+200):=Vq.ofQ (h:=Mt hb.lim.l hb.few ha.z.hq ha.t.hq);have v2:Vq (ofQ ((b.w:Rat)*b.a.val)) ((b.w:Rat)*b.a.val) 17:=Vq.ofQ (h:=Dn hb);have h4:=nf (ofQ (aq (gI b.l z t) b.l.length)) (ofQ ((b.w:Rat)*b.a.val)) (hx:=v1) (hy:=v2) J Y;have key:decide ((bd b).Bal z t)=(decide (sgn (aq (fI b.l z t) b.l.length-(b.w:Rat))=0)&&decide (sgn (aq (gI b.l z t) b.l.length-(b.w:Rat)*b.a.val)=0)):=by
  rw[<-Bool.decide_and,decide_eq_decide,gi,gi];show aq (fI b.l z t) b.l.length=(b.w:Rat)/\aq (gI b.l z t) b.l.length=(b.w:Rat)*b.a.val↔_;constructor
  .rintro⟨e1,e2⟩;rw[e1,e2];constructor<;>grind
  .rintro⟨e1,e2⟩;constructor<;>grind
 rw[key];generalize sgn (aq (fI b.l z t) b.l.length-(b.w:Rat))=g1,sgn (aq (gI b.l z t) b.l.length-(b.w:Rat)*b.a.val)=g2,ofQ (aq (fI b.l z t) b.l.length)=X1,ofQ (aq (gI b.l z t) b.l.length)=X2,ofQ ((b.w:Rat)*b.a.val)=X3,ofQ (b.w:Rat)=X4 at *
 obtain⟨w,ba,l⟩:=b;obtain⟨az,at'⟩:=a;simp only at *
 refine aD Proofs.Tryz.func264 ?_;refine G h1 ?_;refine cX 20 [14,15,16,17,18,19,20,21,22,23,24,25,26,27,28,29,30,31,32,4] ?_;refine G h2 ?_;refine ax h5 ?_;refine fi ?_ ?_<;>intro h
 .rw[h];clear h;refine G h2 ?_;refine G h3 ?_;refine ax h4 ?_;exact kU
 .rw[h];clear h;exact kU
theorem GF {S M:Nat->Rat}{n:Nat}{y:Rat}(h:∀k,k+1<n->S k<S (k+1)):∀m,m<=n->aq (lp S M y) m=cQ M (to S y m)
 |0,_=>rfl
 |m+1,hm=>by
  rw[aq,GF h m J,to,lp];by_cases hy:S m<=y
  .rw[if_pos hy,if_neg bP];have:to S y m=m:=by
    cases m with
    |zero=>rfl
    |succ j =>
     have:=h j J;rw[to,if_pos bP]
   rw[this,cQ];grind
  .rw[if_neg hy,if_pos bP];grind
def HD (c:CR)(y:Rat):Nat->RR
 |0=>ofQ 0
 |i+1=>if c.s i<y then c.M.getD i RR.zero else HD c y i
theorem Ke {c:CR}(hc:c.Lim)(y:Rat):∀i,Vq (HD c y i) (cQ c.m (yu c.s y i)) 12
 |0=>xU c hc 0
 |i+1=>by
  rw[HD,yu];split
  .exact B6 c hc i
  .exact Ke hc y i
theorem wI (s:SR)(hs:s.Lim)(hk:fb s.k=0)(a:AR){z t:Rat}{n m:Nat}[ha:Va a z t n m](hn:n+m<=90000):aU 303 [.agg (eS s),.dref (eA a) 0] (.agg (eR (ofQ (cQ s.k.m (to s.k.s (yQ s z t) s.k.S.length))))):=by
 have h1:=rY s hs a J J;have v1:Vq (ofQ (yQ s z t)) (yQ s z t) (13+(n+1+(m+1+4)+1)+1):=Vq.ofQ (h:=Ds hs ha.z.hq ha.t.hq);have h2:=Iv s.k hs.k hk (ofQ (yQ s z t)) (hy:=v1) J;rw[Lt,GF (ic hk).2.2.2 _ (aY)]at h2;generalize ofQ (cQ s.k.m (to s.k.s (yQ s z t) s.k.S.length))=X2,ofQ (yQ s z t)=X1 at *
 obtain⟨x,c,k⟩:=s;obtain⟨az,at'⟩:=a;try simp only at *
 refine aD Proofs.Tryz.func303 ?_;refine H ?_;refine bL [4] [9,10] aH ?_;refine G h1 ?_;refine G h2 ?_;exact cA
theorem ye (s:SR)(hs:s.Lim)(hk:fb s.k=0)(a:AR){z t:Rat}{n m:Nat}[ha:Va a z t n m](hn:n+m<=90000):aU 305 [.agg (eS s),.dref (eA a) 0] (.agg (eR (HD s.k (yQ s z t) s.k.S.length))):=by
 have h1:=rY s hs a J J;have v1:Vq (ofQ (yQ s z t)) (yQ s z t) (13+(n+1+(m+1+4)+1)+1):=Vq.ofQ (h:=Ds hs ha.z.hq ha.t.hq);have hw0:=cO 0 ⟨Y,Y⟩;rw[show(((0:Int):Rat))=0 from O]at hw0;have hSM:=(ic hk).2.1;have h40:=(ic hk).1;have hkl:=hs.k;obtain⟨x,c,k⟩:=s;obtain⟨az,at'⟩:=a;simp only at hSM h40 hkl;dsimp only;generalize yQ ⟨x,c,k⟩ z t=y at *
 generalize ofQ y=Y0 at *
 have hSl:(k.S.map eN).length=k.S.length:=ap;refine aD Proofs.Tryz.func305 ?_;refine G h1 ?_;refine G hw0 ?_;refine H ?_;refine ai (fun i:Nat=>i<=k.S.length) (fun i=>[(2,.ptr 2 1 0 0),(3,.ptr 3 1 0 0),(4,.ptr 4 1 0 0),(5,.ptr 5 1 0 0),(14,.sl (k.S.map eN)),(15,I k.S.length),(16,I (i:Nat))])
  (fun i=>[(2,1,⟨196,7,[eS ⟨x,c,k⟩],2⟩),(3,1,⟨41,4,[zN],2⟩),(4,1,⟨41,4,[eR Y0],2⟩),(5,1,⟨41,4,[eR (HD k y i)],2⟩)]) (fun i=>k.S.length-i) 0 (aP _) ⟨O,O,O,O,O,by rw[<-hSl];rfl,ah⟩ ?_
 intro i s hi;refine D ?_ ?_<;>intro h
 .have hlt:i<k.S.length:=cw h;clear h;have hx:=bF (d:=0) hlt;have hmx:=bF (l:=k.M) (i:=i) (d:=RR.zero) J;have hxb:=rD hkl i;have hnum:=cO (k.S.getD i 0) hxb;have hzb:Zb (k.S.getD i 0):=aI hxb.1 hxb.2;have hcm:=nf (ofQ ((k.S.getD i 0:Int):Rat)) Y0 (hy:=v1) Y J;have hsl:=eW (k.s i-y);rw[show((k.S.getD i 0:Int):Rat)=k.s i from O]at hnum hcm;have hw:=dN i;have hst:HD k y (i+1)=if k.s i<y then k.M.getD i RR.zero else HD k y i:=O
  generalize ofQ (k.s i)=N at *
  refine aN hx ?_;refine cX 5 [21,22,23,24,25] ?_;refine G hnum ?_;refine ax hcm ?_;refine D ?_ ?_<;>intro h
  .have h3:k.s i<y:=by have:=hsl.1 (bk h);grind
   clear h;rw[if_pos h3]at hst;refine aN hmx ?_;refine H ?_;refine⟨i+1,hlt,J,O,O,O,O,O,O,congrArg I hw,O,O,O,?_,bh⟩;show(_:Nat × Option Cont)=(1,some (Cont.mk 41 4 [eR (HD k y (i+1))] 2));rw[hst];rfl
  .have h3:¬k.s i<y:=fun h2=>(bS h) (hsl.2 bP);clear h;rw[if_neg h3]at hst;refine H ?_;refine⟨i+1,hlt,J,O,O,O,O,O,O,congrArg I hw,O,O,O,?_,bh⟩;show(_:Nat × Option Cont)=(1,some (Cont.mk 41 4 [eR (HD k y (i+1))] 2));rw[hst];rfl
 .have hie:i=k.S.length:=co h;clear h;subst hie;exact cA
theorem yG (a:AR):aU 260 [.agg (eA a)] (.clo 303 [.dref (eA a) 0]):=by
 obtain⟨az,at'⟩:=a;refine aD Proofs.Tryz.func260 ?_;exact cA
theorem BY (a:AR):aU 261 [.agg (eA a)] (.clo 305 [.dref (eA a) 0]):=by
 obtain⟨az,at'⟩:=a;refine aD Proofs.Tryz.func261 ?_;exact cA
def xI (l:List SR)(i:Nat):Rat:=((l.getD i dS).x:Rat)
def eK (a b c:RR):List PV:=eR a++(eR b++eR c)
theorem yP (l:List SR)(hl:l8 l)(hf:xt l)(f:FuncId)(cc:List PV)(g:SR->RR)(κ:Nat->Rat)(hg:∀s∈l,aU f [.agg (eS s),.dref cc 0] (.agg (eR (g s))))(hv:∀i,i<l.length->Vq (g (l.getD i dS)) (κ i) 1000) :
  aU 263 [.sl (l.map eS),.clo f [.dref cc 0]] (.agg (eK (ofQ (aq κ l.length)) (ofQ (aq (fun i=>κ i*xI l i) l.length)) (ofQ (aq (fun i=>κ i*xI l i*xI l i) l.length)))):=by
 have hw0:=cO 0 ⟨Y,Y⟩;rw[show(((0:Int):Rat))=0 from O]at hw0;have hml:(l.map eS).length=l.length:=ap;have hX:∀i,i<l.length->HQ (xI l i) 4:=fun i hi=>by
  have hx:=(hl.1 _ (bU hi)).x;have hx:Zb (l.getD i dS).x:=aI hx.1 hx.2;exact HQ.int
 have hK:∀i,i<l.length->HQ (κ i) 1001:=fun i hi=>(hv i hi).hq;have hC:∀i,i<l.length->HQ (κ i*xI l i) 1005:=fun i hi=>@HQ.mul _ _ 1001 4 (hK i hi) (hX i hi);have hP:∀i,i<l.length->HQ (κ i*xI l i*xI l i) 1009:=fun i hi=>@HQ.mul _ _ 1005 4 (hC i hi) (hX i hi);have h12:=hf.1;generalize hc:(fun i=>κ i*xI l i)=C at *
 generalize hp:(fun i=>κ i*xI l i*xI l i)=Pq at *
 have hCi:∀i,κ i*xI l i=C i:=fun i=>by rw[<-hc]
 have hPi:∀i,C i*xI l i=Pq i:=fun i=>by rw[<-hc,<-hp]
 simp only[hCi,hPi]at hC hP;clear hc hp;refine aD Proofs.Tryz.func263 ?_;refine G hw0 ?_;refine G hw0 ?_;refine G hw0 ?_;refine H ?_;refine ai (fun i:Nat=>i<=l.length) (fun i=>[(1,.clo f [.dref cc 0]),(4,.ptr 4 1 0 0),(5,.ptr 5 1 0 0),(13,.sl (l.map eS)),(14,I l.length),(15,I (i:Nat))])
  (fun i=>[(4,1,⟨325,12,[zN++(zN++zN)],2⟩),(5,1,⟨325,12,[eK (ofQ (aq κ i)) (ofQ (aq C i)) (ofQ (aq Pq i))],2⟩)]) (fun i=>l.length-i) 0 (aP _) ⟨O,O,O,O,by rw[<-hml];rfl,ah⟩ ?_
 intro i s hi;refine D ?_ ?_<;>intro h
 .have hlt:i<l.length:=cw h;clear h;have hx:=bF (d:=dS) hlt;have hxx:=(hl.1 _ (bU hlt)).x;have hgx:=hg _ (bU hlt);have hvi:=hv i hlt;have hw:=dN i;have hwx:=cO (l.getD i dS).x hxx;rw[show((l.getD i dS).x:Rat)=xI l i from O]at hwx;have vx:Vq (ofQ (xI l i)) (xI l i) 4:=Vq.ofQ (h:=hX i hlt);have v1:Vq (ofQ (aq κ i)) (aq κ i) (i*(1001+1)+4):=Vq.ofQ (h:=cd i fun k hk=>hK k J);have v2:Vq (ofQ (aq C i)) (aq C i) (i*(1005+1)+4):=Vq.ofQ (h:=cd i fun k hk=>hC k J);have v3:Vq (ofQ (aq Pq i)) (aq Pq i) (i*(1009+1)+4):=Vq.ofQ (h:=cd i fun k hk=>hP k J);have w2:Vq (ofQ (C i)) (C i) 1005:=Vq.ofQ (h:=hC i hlt);have w3:Vq (ofQ (Pq i)) (Pq i) 1009:=Vq.ofQ (h:=hP i hlt);have a1:=eJ (ofQ (aq κ i)) (g (l.getD i dS)) (hx:=v1) (hy:=hvi) J Y;have m1:=iE (g (l.getD i dS)) (ofQ (xI l i)) (hx:=hvi) (hy:=vx) Y Y;rw[hCi]at m1;have a2:=eJ (ofQ (aq C i)) (ofQ (C i)) (hx:=v2) (hy:=w2) J Y;have m2:=iE (ofQ (C i)) (ofQ (xI l i)) (hx:=w2) (hy:=vx) Y Y;rw[hPi]at m2;have a3:=eJ (ofQ (aq Pq i)) (ofQ (Pq i)) (hx:=v3) (hy:=w3) J Y;rw[show aq κ i+κ i=aq κ (i+1) from O]at a1;rw[show aq C i+C i=aq C (i+1) from O]at a2;rw[show aq Pq i+Pq i=aq Pq (i+1) from O]at a3;have hout:eK (ofQ (aq κ (i+1))) (ofQ (aq C (i+1))) (ofQ (aq Pq (i+1)))=eK (ofQ (aq κ (i+1))) (ofQ (aq C (i+1))) (ofQ (aq Pq (i+1))):=O;generalize ofQ (aq κ i)=K0,ofQ (aq C i)=C0,ofQ (aq Pq i)=P0 at *
  generalize hK1:ofQ (aq κ (i+1))=K1 at *
  generalize hC1:ofQ (aq C (i+1))=C1 at *
  generalize hP1:ofQ (aq Pq (i+1))=P1 at *
  generalize ofQ (xI l i)=XI,ofQ (C i)=CI,ofQ (Pq i)=PI at *
  refine aN hx ?_;refine G hgx ?_;refine G a1 ?_;refine cX 5 [27,28,29,30,31] ?_;refine G hwx ?_;refine G m1 ?_;refine G a2 ?_;refine cX 9 [37,38,39,40,41,42,43,44,45] ?_;refine G hwx ?_;refine G m2 ?_;refine G a3 ?_;refine H ?_;refine⟨i+1,hlt,J,O,O,O,O,O,congrArg I hw,O,?_,bh⟩;show(_:Nat × Option Cont)=(1,some (Cont.mk 325 12 [eK (ofQ (aq κ (i+1))) (ofQ (aq C (i+1))) (ofQ (aq Pq (i+1)))] 2));rw[hK1,hC1,hP1];rfl
 .have hie:i=l.length:=co h;clear h;subst hie;exact cA
theorem G_ (a d:AR){z t:Rat}{n m:Nat}{z' t':Rat}{n' m':Nat}[ha:Va a z t n m][hd:Va d z' t' n' m'](h1:n<=8000000)(h2:m<=8000000)(h3:n'<=8000000)(h4:m'<=8000000):aU 265 [.agg (eA a),.agg (eA d)] (.agg (eA ⟨ofQ (z+z'),ofQ (t+t')⟩)):=by
 have a1:=eJ a.z d.z (hx:=ha.z) (hy:=hd.z) J J;have a2:=eJ a.t d.t (hx:=ha.t) (hy:=hd.t) J J;generalize ofQ (z+z')=X,ofQ (t+t')=Y0 at *
 obtain⟨az,at'⟩:=a;obtain⟨dz,dt⟩:=d;try simp only at *
 refine aD Proofs.Tryz.func265 ?_;refine cX 11 [5,6,7,8,9,10,11,12,13,14,15] ?_;refine G a1 ?_;refine G a2 ?_;exact cA
theorem iH {q:Rat}{n:Nat}(h:Vq (ofQ q) q n):HQ q n:=by
 refine⟨?_⟩;obtain⟨_,h1,h2⟩:=h;have e1:=dV (ofQ q).n.l;have e2:=dV (ofQ q).d.l;rw[show(ofQ q).n.l=aJ q.num.natAbs from O]at e1 h1;rw[show(ofQ q).d.l=aJ q.den from O]at e2 h2;rw[bi]at e1 e2;exact⟨gU e1 (fV h1),gU e2 (fV h2)⟩
def wc (d:Option (Rat × Rat)):PV:=match d with
 |none => .tup [.agg (zN++zN),.bool false]
 |some d => .tup [.agg (eA ⟨ofQ d.1,ofQ d.2⟩),.bool true]
theorem HO (kh kc kp fo mo:RR){η c p u v:Rat}{a b:Nat}(hh:Vq kh η a)(hc:Vq kc c a)(hp:Vq kp p a)(hu:Vq fo u b)(hv:Vq mo v b)(ha:a<=20000)(hb:b<=7000000) :
  aU 262 [.agg (eK kh kc kp),.agg (eR fo),.agg (eR mo)] (wc (Bd.newt η c p u v)):=by
 have m1:=iE kh kp (hx:=hh) (hy:=hp) J J;have m2:=iE kc kc (hx:=hc) (hy:=hc) J J;have v1:Vq (ofQ (η*p)) (η*p) (a+1+(a+1)):=Vq.ofQ (h:=@HQ.mul _ _ (a+1) (a+1) hh.hq hp.hq);have v2:Vq (ofQ (c*c)) (c*c) (a+1+(a+1)):=Vq.ofQ (h:=@HQ.mul _ _ (a+1) (a+1) hc.hq hc.hq);have s1:=nk (ofQ (η*p)) (ofQ (c*c)) (hx:=v1) (hy:=v2) J J;have v3:Vq (ofQ (η*p-c*c)) (η*p-c*c) (a+1+(a+1)+(a+1+(a+1))+1):=Vq.ofQ (h:=@HQ.sub _ _ _ _ (iH v1) (iH v2));have sg:=wN (ofQ (η*p-c*c)) (hx:=v3) J;have hs0:=gi (η*p-c*c);by_cases h0:η*p-c*c=0
 .have hn:Bd.newt η c p u v=none:=by rw[Bd.newt,if_pos h0]
  rw[hn];have e0:=hs0.2 h0;rw[e0]at sg;generalize ofQ (η*p-c*c)=D0,ofQ (η*p)=D1,ofQ (c*c)=D2 at *
  clear hn;refine aD Proofs.Tryz.func262 ?_;refine H ?_;refine a_ [(11,8),(12,8)] aH aH ?_;refine G m1 ?_;refine G m2 ?_;refine G s1 ?_;refine ax sg ?_;exact cA
 .have hn:Bd.newt η c p u v=some ((p*u-c*v)/(η*p-c*c),(η*v-c*u)/(η*p-c*c)):=by rw[Bd.newt,if_neg h0]
  rw[hn];have m3:=iE kp fo (hx:=hp) (hy:=hu) J J;have m4:=iE kc mo (hx:=hc) (hy:=hv) J J;have m5:=iE kh mo (hx:=hh) (hy:=hv) J J;have m6:=iE kc fo (hx:=hc) (hy:=hu) J J;have w3:Vq (ofQ (p*u)) (p*u) (a+1+(b+1)):=Vq.ofQ (h:=@HQ.mul _ _ (a+1) (b+1) hp.hq hu.hq);have w4:Vq (ofQ (c*v)) (c*v) (a+1+(b+1)):=Vq.ofQ (h:=@HQ.mul _ _ (a+1) (b+1) hc.hq hv.hq);have w5:Vq (ofQ (η*v)) (η*v) (a+1+(b+1)):=Vq.ofQ (h:=@HQ.mul _ _ (a+1) (b+1) hh.hq hv.hq);have w6:Vq (ofQ (c*u)) (c*u) (a+1+(b+1)):=Vq.ofQ (h:=@HQ.mul _ _ (a+1) (b+1) hc.hq hu.hq);have s2:=nk (ofQ (p*u)) (ofQ (c*v)) (hx:=w3) (hy:=w4) J J;have s3:=nk (ofQ (η*v)) (ofQ (c*u)) (hx:=w5) (hy:=w6) J J;have x2:Vq (ofQ (p*u-c*v)) (p*u-c*v) (a+1+(b+1)+(a+1+(b+1))+1):=Vq.ofQ (h:=@HQ.sub _ _ _ _ (iH w3) (iH w4));have x3:Vq (ofQ (η*v-c*u)) (η*v-c*u) (a+1+(b+1)+(a+1+(b+1))+1):=Vq.ofQ (h:=@HQ.sub _ _ _ _ (iH w5) (iH w6));have q2:=Cl (ofQ (p*u-c*v)) (ofQ (η*p-c*c)) (hx:=x2) (hy:=v3) J J h0;have q3:=Cl (ofQ (η*v-c*u)) (ofQ (η*p-c*c)) (hx:=x3) (hy:=v3) J J h0;have hsn:sgn (η*p-c*c)≠0:=fun e=>h0 (hs0.1 e);simp only[wc];generalize ofQ ((p*u-c*v)/(η*p-c*c))=R1,ofQ ((η*v-c*u)/(η*p-c*c))=R2,sgn (η*p-c*c)=gs,ofQ (η*p-c*c)=D0,ofQ (η*p)=D1,ofQ (c*c)=D2,ofQ (p*u-c*v)=D3,ofQ (η*v-c*u)=D4,ofQ (p*u)=D5,ofQ (c*v)=D6,ofQ (η*v)=D7,ofQ (c*u)=D8 at *
  clear hn;refine aD Proofs.Tryz.func262 ?_;refine H ?_;refine a_ [(11,8),(12,8)] aH aH ?_;refine G m1 ?_;refine G m2 ?_;refine G s1 ?_;refine ax sg ?_;refine D ?_ ?_<;>intro h
  .exact absurd (bk h) hsn
  clear h;refine H ?_;refine a_ [(9,9),(10,9)] aH aH ?_;refine G m3 ?_;refine G m4 ?_;refine G s2 ?_;refine H ?_;refine a_ [(9,10),(10,10)] aH aH ?_;refine G m5 ?_;refine G m6 ?_;refine G s3 ?_;refine cX 7 [44,45,46,47,48,49,50] ?_;refine G q2 ?_;refine G q3 ?_;exact cA
def ly (S M:Nat->Rat)(k:Nat):Rat:=M k*(S (k+1)-S k)
theorem Ci (S M:Nat->Rat):∀m,oW S M (m+1)=M m*S m-aq (ly S M) m
 |0=>by rw[oW,aq,aq,aq,cQ];grind
 |m+1=>by
  have:=Ci S M m;rw[oW]at this ⊢;rw[aq,this,aq,cQ,ly];grind
theorem Fi {S M:Nat->Rat}{n:Nat}(h:cQ M n=0):xw n S M=aq (ly S M) (n-1):=by
 cases n with
 |zero=>rw[xw,oW,aq,aq];grind
 |succ m =>
  rw[cQ]at h;rw[xw,Ci,h,show m+1-1=m by omega];grind
def MK (c:CR):PV:=if cQ c.m c.S.length=0 then .tup [.agg (eR (ofQ (xw c.S.length c.s c.m))),.bool true,I 0] else .tup [.agg zN,.bool false,I 0]
theorem ze {c:CR}(hc:c.Lim)(k:Nat):HQ (ly c.s c.m k) (13+(4+4+1)):=by
 have h1:=rD hc k;have h2:=rD hc (k+1);have z1:Zb (c.S.getD k 0):=aI h1.1 h1.2;have z2:Zb (c.S.getD (k+1) 0):=aI h2.1 h2.2;exact @HQ.mul _ _ 13 9 (B6 c hc k).hq (@HQ.sub _ _ 4 4 HQ.int HQ.int)
theorem zf (c:CR)(hc:c.Lim)(h0:fb c=0):aU 298 [.agg (eC c)] (MK c):=by
 have hcc:=iR c hc;rw[h0]at hcc;obtain⟨h40,hSM,hrange,-⟩:=ic h0;have hz:=jt 0 Y Y;rw[show(((0:Int):Rat))=0 from O]at hz;have hSl:(c.S.map eN).length=c.S.length:=ap;generalize hR:MK c=R;rw[MK]at hR;refine aD Proofs.Tryz.func298 ?_;refine ax hcc ?_;refine G hz ?_;refine H ?_;refine ai (fun i:Nat=>i<=c.S.length/\(i=c.S.length->cQ c.m c.S.length=0)) (fun i=>[(1,.ptr 1 1 0 0),(2,.ptr 2 1 0 0),(6,.ptr 6 1 0 0),(17,.sl (c.S.map eN)),(18,I c.S.length),(19,I (i:Nat))])
  (fun i=>[(1,1,⟨194,2,[eC c],2⟩),(2,1,⟨41,4,[zN],2⟩),(6,1,⟨41,4,[eR (ofQ (aq (ly c.s c.m) (min i (c.S.length-1))))],2⟩)]) (fun i=>c.S.length-i) 0 ⟨aP _,fun h=>by rw[<-h];rfl⟩ ⟨O,O,O,O,by rw[<-hSl];rfl,O,O,O,?_,bh⟩ ?_
 .show(_:Nat × Option Cont)=(1,some (Cont.mk 41 4 [eR (ofQ (aq (ly c.s c.m) (min 0 (c.S.length-1))))] 2));rw[Nat.zero_min];rfl
 intro i s ⟨hi,hlast⟩;refine D ?_ ?_<;>intro h
 .have hlt:i<c.S.length:=cw h;clear h;have hx:=bF (d:=0) hlt;have hmx:=bF (l:=c.M) (i:=i) (d:=RR.zero) J;have hw:=dN i;by_cases hn:i+1<c.S.length
  .have hy:=bF (d:=0) hn;have r1:=(hrange i hlt);have r2:=(hrange (i+1) hn);have hd:=gp (c.S.getD (i+1) 0-c.S.getD i 0);have hnum:=jt (c.S.getD (i+1) 0-c.S.getD i 0) J J;have ed:((c.S.getD (i+1) 0-c.S.getD i 0:Int):Rat)=c.s (i+1)-c.s i:=by rw[CR.s,CR.s];push_cast;rfl
   rw[ed]at hnum;have z1:Zb (c.S.getD i 0):=aI J J;have z2:Zb (c.S.getD (i+1) 0):=aI J J;have v1:Vq (ofQ (c.s (i+1)-c.s i)) (c.s (i+1)-c.s i) 9:=Vq.ofQ (h:=@HQ.sub _ _ 4 4 HQ.int HQ.int);have m1:=iE (c.M.getD i RR.zero) (ofQ (c.s (i+1)-c.s i)) (hx:=B6 c hc i) (hy:=v1) Y Y;have v2:Vq (ofQ (aq (ly c.s c.m) i)) (aq (ly c.s c.m) i) (i*(13+(4+4+1)+1)+4):=Vq.ofQ (h:=cd i fun k _=>ze hc k);have v3:Vq (ofQ (ly c.s c.m i)) (ly c.s c.m i) (13+(4+4+1)):=Vq.ofQ (h:=ze hc i);rw[show c.m i*(c.s (i+1)-c.s i)=ly c.s c.m i from O]at m1;have a1:=eJ (ofQ (aq (ly c.s c.m) i)) (ofQ (ly c.s c.m i)) (hx:=v2) (hy:=v3) J Y;rw[show aq (ly c.s c.m) i+ly c.s c.m i=aq (ly c.s c.m) (i+1) from O]at a1;rw[show min i (c.S.length-1)=i by omega];generalize ofQ (aq (ly c.s c.m) i)=K0 at *
   generalize hK1:ofQ (aq (ly c.s c.m) (i+1))=K1 at *
   generalize ofQ (ly c.s c.m i)=T0,ofQ (c.s (i+1)-c.s i)=D0 at *
   refine aN hx ?_;refine H ?_;rw[hw];refine aV O ?_ ?_<;>intro h
   .clear h;refine cX 17 [30,31,32,33,34,35,36,37,38,39,40,41,42,43,44,45,46] ?_;refine aN hmx ?_;refine H ?_;rw[hw];refine tp O O O O O O O hy O ?_;refine H ?_;rw[hd];refine oJ O O O hnum O O ?_;refine G m1 ?_;refine G a1 ?_;refine H ?_;refine⟨i+1,⟨J,fun h=>by omega⟩,J,O,O,O,O,O,congrArg I hw,O,O,?_,bh⟩;show(_:Nat × Option Cont)=(1,some (Cont.mk 41 4 [eR (ofQ (aq (ly c.s c.m) (min (i+1) (c.S.length-1))))] 2));rw[show min (i+1) (c.S.length-1)=i+1 by omega,hK1];rfl
   .have:=bS h;exfalso;omega
  .have hie:i+1=c.S.length:=J;have hiz:=FK (c.M.getD i RR.zero) (hx:=B6 c hc i) Y;have hbf:cQ c.m c.S.length=c.m i:=by rw[<-hie];rfl
   rw[show min i (c.S.length-1)=i by omega];by_cases hm:c.m i=0
   .rw[decide_eq_true hm]at hiz;refine aN hx ?_;refine H ?_;rw[hw];refine aV O ?_ ?_<;>intro h
    .have:=bk h;exfalso;omega
    .clear h;refine aN hmx ?_;refine ax hiz ?_;refine H ?_;refine⟨i+1,⟨J,fun _=>by rw[hbf];exact hm⟩,J,O,O,O,O,O,congrArg I hw,O,O,?_,bh⟩;show(_:Nat × Option Cont)=(1,some (Cont.mk 41 4 [eR (ofQ (aq (ly c.s c.m) (min (i+1) (c.S.length-1))))] 2));rw[show min (i+1) (c.S.length-1)=i by omega];rfl
   .rw[decide_eq_false hm]at hiz;rw[if_neg (by rw[hbf];exact hm)]at hR;subst hR;refine aN hx ?_;refine H ?_;rw[hw];refine aV O ?_ ?_<;>intro h
    .have:=bk h;exfalso;omega
    .clear h;refine aN hmx ?_;refine ax hiz ?_;exact cA
 .have hie:i=c.S.length:=co h;clear h;have hb:=hlast hie;rw[if_pos hb,Fi hb]at hR;subst hR;rw[show min i (c.S.length-1)=c.S.length-1 by omega];exact cA
theorem DP (w:Int)(hw:i64 w)(x:RR)(r:AR){p A B:Rat}{k n m:Nat}(hx:Vq x p k)(hr:Va r A B n m)(h1:k<=1000000)(h2:n<=1000000)(h3:m<=1000000):aU 256 [I w,.agg (eR x),.agg (eA r)] (.agg (eR (ofQ ((w:Rat)*(A+B*p))))):=by
 have zw:Zb w:=aI hw.1 hw.2;have d1:=cO w hw;have d2:=iE r.t x (hx:=hr.t) (hy:=hx) J J;have v2:Vq (ofQ (B*p)) (B*p) (m+1+(k+1)):=Vq.ofQ (h:=@HQ.mul _ _ (m+1) (k+1) hr.t.hq hx.hq);have d3:=eJ r.z (ofQ (B*p)) (hx:=hr.z) (hy:=v2) J J;have v3:Vq (ofQ (A+B*p)) (A+B*p) (n+1+(m+1+(k+1))+1):=Vq.ofQ (h:=@HQ.add _ _ (n+1) _ hr.z.hq (iH v2));have d4:=iE (ofQ (w:Rat)) (ofQ (A+B*p)) (hy:=v3) Y J;generalize ofQ ((w:Rat)*(A+B*p))=X4,ofQ (A+B*p)=X3,ofQ (B*p)=X2,ofQ (w:Rat)=X1 at *
 obtain⟨az,at'⟩:=r;try simp only at *
 refine aD Proofs.Tryz.func256 ?_;refine cX 10 [7,8,9,10,11,12,13,14,15,16] ?_;refine G d1 ?_;refine G d2 ?_;refine G d3 ?_;refine G d4 ?_;exact cA
def cI (l:List SR)(i:Nat):Rat:=xw (l.getD i dS).k.S.length (l.getD i dS).k.s (l.getD i dS).k.m
def P_ (l:List SR)(i:Nat):Prop:=cQ (l.getD i dS).k.m (l.getD i dS).k.S.length=0
def yT (l:List SR)(A B:Rat)(i:Nat):Rat:=if 0<A+B*xI l i then cI l i*(A+B*xI l i) else 0
def nr (l:List SR)(A B:Rat)(n:Nat):Prop:=∀i,i<n->0<A+B*xI l i->P_ l i
noncomputable def Ow (l:List SR)(A B:Rat):PV:=@ite _ (nr l A B l.length) (Classical.propDecidable _) (.tup [.agg (eR (ofQ (aq (yT l A B) l.length))),.bool true]) (.tup [.agg zN,.bool false])
theorem Jm {c:CR}(hc:c.Lim)(h8:c.S.length<=8)(h0:cQ c.m c.S.length=0):HQ (xw c.S.length c.s c.m) 200:=by
 rw[Fi h0];exact(cd (c.S.length-1) fun k _=>ze hc k).mono J
theorem Po {l:List SR}(hl:l8 l)(hf:xt l){A B:Rat}{n m:Nat}(hA:HQ A n)(hB:HQ B m){i:Nat}(hi:i<l.length)(ha:0<A+B*xI l i->P_ l i):HQ (yT l A B i) (200+(n+(m+4)+1)):=by
 rw[yT];split
 .rename_i h;have hx:=(hl.1 _ (bU hi)).x;have hx:Zb (l.getD i dS).x:=aI hx.1 hx.2;exact @HQ.mul _ _ 200 (n+(m+4)+1) (Jm (hl.1 _ (bU hi)).k (hf.2 _ (bU hi)) (ha h)) (@HQ.add _ _ n (m+4) hA (@HQ.mul _ _ m 4 hB HQ.int))
 .exact HQ.zero.mono J
theorem IN (l:List SR)(hl:l8 l)(hf:xt l)(hck:ej l=0)(r:AR){A B:Rat}{n m:Nat}(hr:Va r A B n m)(h2:n<=100000)(h3:m<=100000):aU 255 [.sl (l.map eS),.agg (eA r)] (Ow l A B):=by
 have hw0:=cO 0 ⟨Y,Y⟩;rw[show(((0:Int):Rat))=0 from O]at hw0;have hml:(l.map eS).length=l.length:=ap;have hz:=hr.z.hq;have ht:=hr.t.hq;have h12:=hf.1;generalize hR:Ow l A B=R;rw[Ow]at hR;obtain⟨rz,rt⟩:=r;have hrz:=hr.z;have hrt:=hr.t;simp only at hrz hrt;refine aD Proofs.Tryz.func255 ?_;refine G hw0 ?_;refine H ?_;refine ai (fun i:Nat=>i<=l.length/\nr l A B i) (fun i=>[(3,.ptr 3 1 0 0),(4,.ptr 4 1 0 0),(6,.ptr 6 1 0 0),(14,.sl (l.map eS)),(15,I l.length),(16,I (i:Nat))])
  (fun i=>[(3,1,⟨48,8,[eA ⟨rz,rt⟩],2⟩),(4,1,⟨41,4,[zN],2⟩),(6,1,⟨41,4,[eR (ofQ (aq (yT l A B) i))],2⟩)]) (fun i=>l.length-i) 0 ⟨aP _,fun i hi=>by omega⟩ ⟨O,O,O,O,by rw[<-hml];rfl,ah⟩ ?_
 intro i s ⟨hi,hall⟩;refine D ?_ ?_<;>intro h
 .have hlt:i<l.length:=cw h;clear h;have hx:=bF (d:=dS) hlt;have hsl:=hl.1 _ (bU hlt);have h8:=hf.2 _ (bU hlt);have hkc:=fk hck _ (bU hlt);have hxx:=hsl.x;have hzb:Zb (l.getD i dS).x:=aI hxx.1 hxx.2;have hw:=dN i;have e1:=cO (l.getD i dS).x hxx;rw[show((l.getD i dS).x:Rat)=xI l i from O]at e1;have vx:Vq (ofQ (xI l i)) (xI l i) 4:=Vq.ofQ (h:=HQ.int);have e2:=iE rt (ofQ (xI l i)) (hx:=hrt) (hy:=vx) J Y;have v2:Vq (ofQ (B*xI l i)) (B*xI l i) (m+1+4):=Vq.ofQ (h:=@HQ.mul _ _ (m+1) 4 ht HQ.int);have e3:=eJ rz (ofQ (B*xI l i)) (hx:=hrz) (hy:=v2) J J;have v3:Vq (ofQ (A+B*xI l i)) (A+B*xI l i) (n+1+(m+1+4)+1):=Vq.ofQ (h:=@HQ.add _ _ (n+1) _ hz (iH v2));have e4:=wN (ofQ (A+B*xI l i)) (hx:=v3) J;have hsg:=nT (A+B*xI l i);by_cases hd:0<A+B*xI l i
  .have hsn:¬sgn (A+B*xI l i)<=0:=fun h=>by have:=hsg.1 h;grind
   have e5:=zf (l.getD i dS).k hsl.k hkc;rw[MK]at e5;generalize sgn (A+B*xI l i)=g at *
   by_cases hlim:P_ l i
   .rw[if_pos (show cQ (l.getD i dS).k.m (l.getD i dS).k.S.length=0 from hlim)]at e5;have hcl:=Jm hsl.k h8 hlim;rw[show xw (l.getD i dS).k.S.length (l.getD i dS).k.s (l.getD i dS).k.m=cI l i from O]at e5 hcl;have vc:Vq (ofQ (cI l i)) (cI l i) 200:=Vq.ofQ (h:=hcl);have e6:=iE (ofQ (cI l i)) (ofQ (A+B*xI l i)) (hx:=vc) (hy:=v3) Y J;have hall':nr l A B (i+1):=fun j hj hp=>by
     by_cases hje:j=i
     .subst hje;exact hlim
     .exact hall j J hp
    have v6:Vq (ofQ (cI l i*(A+B*xI l i))) (cI l i*(A+B*xI l i)) (200+(n+1+(m+1+4)+1)):=Vq.ofQ (h:=@HQ.mul _ _ 200 _ hcl (iH v3));have v7:Vq (ofQ (aq (yT l A B) i)) (aq (yT l A B) i) (i*(200+(n+1+(m+1+4)+1)+1)+4):=Vq.ofQ (h:=cd i fun k hk=>Po hl hf hz ht J (hall k hk));have e7:=eJ (ofQ (aq (yT l A B) i)) (ofQ (cI l i*(A+B*xI l i))) (hx:=v7) (hy:=v6) (by have:=eO (show i<=12 by omega) (show 200+(n+1+(m+1+4)+1)+1<=200208 by omega);omega) J;rw[show aq (yT l A B) i+cI l i*(A+B*xI l i)=aq (yT l A B) (i+1) by rw[aq,yT,if_pos hd]]at e7;generalize ofQ (aq (yT l A B) i)=K0 at *
    generalize hK1:ofQ (aq (yT l A B) (i+1))=K1 at *
    generalize ofQ (cI l i*(A+B*xI l i))=P0,ofQ (cI l i)=C0,ofQ (A+B*xI l i)=D0,ofQ (B*xI l i)=D1,ofQ (xI l i)=D2 at *
    refine aN hx ?_;refine cV 5 ?_;refine ao (e_ 9) ?_;refine a_ [(9,9),(10,9)] aH aH ?_;refine G e1 ?_;refine G e2 ?_;refine G e3 ?_;refine ax e4 ?_;refine D ?_ ?_<;>intro h
    .exact absurd (bk h) hsn
    clear h;refine G e5 ?_;refine cX 5 [42,43,44,45,46] ?_;refine G e6 ?_;refine G e7 ?_;refine H ?_;refine⟨i+1,⟨J,hall'⟩,J,O,O,O,O,O,congrArg I hw,O,O,?_,bh⟩;show(_:Nat × Option Cont)=(1,some (Cont.mk 41 4 [eR (ofQ (aq (yT l A B) (i+1)))] 2));rw[hK1];rfl
   .rw[if_neg (show ¬cQ (l.getD i dS).k.m (l.getD i dS).k.S.length=0 from hlim)]at e5;rw[if_neg (fun h=>hlim (h i hlt hd))]at hR;subst hR;generalize ofQ (A+B*xI l i)=D0,ofQ (B*xI l i)=D1,ofQ (xI l i)=D2 at *
    refine aN hx ?_;refine cV 5 ?_;refine ao (e_ 9) ?_;refine a_ [(9,9),(10,9)] aH aH ?_;refine G e1 ?_;refine G e2 ?_;refine G e3 ?_;refine ax e4 ?_;refine D ?_ ?_<;>intro h
    .exact absurd (bk h) hsn
    clear h;refine G e5 ?_;exact cA
  .have hsn:sgn (A+B*xI l i)<=0:=hsg.2 bP;have hall':nr l A B (i+1):=fun j hj hp=>by
    by_cases hje:j=i
    .subst hje;exact absurd hp hd
    .exact hall j J hp
   have hsum:aq (yT l A B) (i+1)=aq (yT l A B) i:=by rw[aq,yT,if_neg hd];grind
   generalize sgn (A+B*xI l i)=g,ofQ (A+B*xI l i)=D0,ofQ (B*xI l i)=D1,ofQ (xI l i)=D2 at *
   refine aN hx ?_;refine cV 5 ?_;refine ao (e_ 9) ?_;refine a_ [(9,9),(10,9)] aH aH ?_;refine G e1 ?_;refine G e2 ?_;refine G e3 ?_;refine ax e4 ?_;refine D ?_ ?_<;>intro h
   .clear h;refine H ?_;refine⟨i+1,⟨J,hall'⟩,J,O,O,O,O,O,congrArg I hw,O,O,?_,bh⟩;show(_:Nat × Option Cont)=(1,some (Cont.mk 41 4 [eR (ofQ (aq (yT l A B) (i+1)))] 2));rw[hsum];rfl
   .exact absurd hsn (bS h)
 .have hie:i=l.length:=co h;clear h;subst hie;rw[if_pos hall]at hR;subst hR;exact cA
noncomputable def sD (b:BR)(A B:Rat):Bool:=@decide (nr b.l A B b.l.length/\aq (yT b.l A B) b.l.length<(b.w:Rat)*(A+B*b.a.val)) (Classical.propDecidable _)
theorem tu (b:BR)(hb:b.Ok)(r:AR){A B:Rat}{n m:Nat}(hr:Va r A B n m)(h2:n<=90000)(h3:m<=90000):aU 186 [.agg (eB b),.agg (eA r)] (.bool (sD b A B)):=by
 have h1:=IN b.l hb.lim.l hb.few hb.chkL r hr J J;have zw:Zb b.w:=aI hb.lim.w.1 hb.lim.w.2;have hd:=DP b.w hb.lim.w b.a r hb.lim.a.v hr Y J J;have vd:Vq (ofQ ((b.w:Rat)*(A+B*b.a.val))) ((b.w:Rat)*(A+B*b.a.val)) (4+(n+1+(m+1+13)+1)):=Vq.ofQ (h:=@HQ.mul _ _ 4 _ HQ.int (@HQ.add _ _ (n+1) _ hr.z.hq (@HQ.mul _ _ (m+1) 13 hr.t.hq hb.lim.a.v.hq)));rw[Ow]at h1;by_cases hall:nr b.l A B b.l.length
 .rw[if_pos hall]at h1;have h12:=hb.few.1;have hs:=cd (m:=200+(n+1+(m+1+4)+1)) b.l.length fun k hk=>Po hb.lim.l hb.few hr.z.hq hr.t.hq hk (hall k hk);have vs:Vq (ofQ (aq (yT b.l A B) b.l.length)) (aq (yT b.l A B) b.l.length) (b.l.length*(200+(n+1+(m+1+4)+1)+1)+4):=Vq.ofQ (h:=hs);have hc:=nf (ofQ (aq (yT b.l A B) b.l.length)) (ofQ ((b.w:Rat)*(A+B*b.a.val))) (hx:=vs) (hy:=vd) (by have:=eO (show b.l.length<=12 by omega) (show 200+(n+1+(m+1+4)+1)+1<=180210 by omega);omega) J;have hsl:=eW (aq (yT b.l A B) b.l.length-(b.w:Rat)*(A+B*b.a.val));have key:sD b A B=decide (sgn (aq (yT b.l A B) b.l.length-(b.w:Rat)*(A+B*b.a.val))<0):=by
   rw[sD,decide_eq_decide,hsl];constructor
   .intro h;have:=h.2;grind
   .intro h;exact⟨hall,bP⟩
  rw[key];generalize sgn (aq (yT b.l A B) b.l.length-(b.w:Rat)*(A+B*b.a.val))=g,ofQ (aq (yT b.l A B) b.l.length)=S,ofQ ((b.w:Rat)*(A+B*b.a.val))=D0 at *
  obtain⟨w,ba,l⟩:=b;obtain⟨rz,rt⟩:=r;try simp only at *
  refine aD Proofs.Tryz.func186 ?_;refine G h1 ?_;refine cX 13 [14,15,16,17,18,19,20,21,22,23,24,25,4] ?_;refine G hd ?_;refine ax hc ?_;exact kU
 .rw[if_neg hall]at h1;have key:sD b A B=false:=by
   unfold sD;exact @decide_eq_false _ (Classical.propDecidable _) (fun h=>hall h.1)
  rw[key];clear hd vd;obtain⟨w,ba,l⟩:=b;obtain⟨rz,rt⟩:=r;try simp only at *
  refine aD Proofs.Tryz.func186 ?_;refine G h1 ?_;refine cX 13 [14,15,16,17,18,19,20,21,22,23,24,25,4] ?_;exact kU
end Go.Pv
namespace Go.Pv
open Go.RowKit Go.Sort
section
variable {P:Program}{L:dj}{C:Ctx}{γ:Nat->Option Nat}{s:St}{a:Act}{w w':World}
structure Chg (w w':World) (b:Nat) (T:TypeId) (cur:Array Value):Prop where
 os:w'.os=w.os
 tape:w'.tape=w.tape
 output:w'.output=w.output
 size:w.heap.size<=w'.heap.size
 other:∀b',b'≠b->b'<w.heap.size->w'.heap[b']? = w.heap[b']?
 at_:w'.heap[b]?=some (.cells cur T (0,0))
theorem ML (h:Sim C γ s a w){k g b:Nat}{c c':Cont}{cur cur':Array Value}(ho:s.own k=(g,some c))(hb:γ k=some b)(hh:w.heap[b]?=some (.cells cur c.ty (0,0)))(hsz:cur'.size=cur.size)
  (hc:Chg w w' b c.ty cur') (h1:c'.ty=c.ty) (h2:c'.sz=c.sz) (h3:c.rows.length<=c'.rows.length) (hs:SiteOk (aB C γ (s.setOwn k g (some c')) (w.setRow b cur')) (some b) c'):Sim C γ (s.setOwn k g (some c')) a w':=by
 refine(yR h ho hb hh hsz h1 h2 h3 hs).ext ⟨hc.os,hc.tape,hc.output,by simpa using hc.size,fun b' hb'=>?_⟩;have hb'':b'<w.heap.size:=by simpa using hb'
 by_cases he:b'=b
 .subst he;rw[hc.at_,setRow_heap w b' cur cur' c.ty (0,0) hh]
 .rw[hc.other b' he hb'',setRow_other w b b' cur' he]
theorem Fj {α:Type}[Inhabited α]{e:α->Value}{q b:Nat}{d':Array α}{os:Array Obj}{T:TypeId}{cur:Array Value}(hh:w.heap[b]?=some (.cells cur T (0,0)))(hw:w'=grow (putRow e (Sort.ahead w q) b 0 d') os):Chg w w' b T (putCells e 0 d' cur):=by
 have hlt:b<w.heap.size:=(iy hh).1;subst hw;refine⟨O,O,O,ap,fun b' hne hb'=>?_,?_⟩
 .rw[heap_grow_old _ _ (by simpa using hb')];show(w.heap.modify b _)[b']? = _;rw[qV,if_neg (Ne.symm hne)]
 .rw[heap_grow_old _ _ (by simpa using hlt)];show(w.heap.modify b _)[b]? = _;rw[qV,if_pos O,hh];rfl
theorem pl {α:Type}[Inhabited α](e:α->Value)(off:Nat)(d:Array α)(c:Array Value):(putCells e off d c).size=c.size:=by simp[putCells]
theorem pm {α:Type}[Inhabited α](e:α->Value)(d:Array α)(c:Array Value)(h:d.size<=c.size):(putCells e 0 d c).toList.take d.size=d.toList.map e:=by
 apply List.ext_getElem
 .simp[putCells];omega
 intro i h1 h2;have hi:i<d.size:=by simpa using h2
 simp[putCells,hi]
theorem Ej {E:Env}{k:Nat}{c:PV}(h:jV c=true):KRep E k c (Pa c):=by
 match k with
 |0=>exact(kJ h _ _).1
 |1=>exact(kJ h _ _).1
 |_+2=>exact .d (kJ h _ _).1
def mZ {α:Type}(enc:α->List PV)(l:List α):List Value:=l.flatMap fun x=>(enc x).map Pa
theorem Hq {α:Type}{enc:α->List PV}{sz:Nat}(h:∀x,(enc x).length=sz)(l:List α):(mZ enc l).length=l.length*sz:=by
 induction l with
 |nil=>simp[mZ]
 |cons x l ih=>simp only[mZ,j5,bQ,aF,dl,h,cg,fR]at ih ⊢;omega
theorem qI {α:Type}{enc:α->List PV}{sz:Nat}(h:∀x,(enc x).length=sz):∀(l:List α) (i j:Nat) (x:α) (c:PV),l[i]?=some x->(enc x)[j]?=some c->(mZ enc l)[i*sz+j]?=some (Pa c)
 |[],i,j,x,c,h1,_=>by simp at h1
 |y::l,0,j,x,c,h1,h2=>by
  simp at h1;subst h1;have hj:=(cb h2).1;rw[mZ,j5,fN aS,bw,gM,aM,h2];rfl
 |y::l,i+1,j,x,c,h1,h2=>by
  have ih:=qI h l i j x c (by simpa using h1) h2;rw[mZ,j5,fc (by rw[aF,h,cg];omega),aF,h];rw[show(i+1)*sz+j-sz=i*sz+j by rw[cg];omega];exact ih
theorem GK {l m:List Value}{n i:Nat}{v:Value}(h:l.take n=m)(hi:m[i]?=some v):l[i]?=some v:=by
 rw[<-h,cJ]at hi;split at hi
 .exact hi
 .cases hi
def SX (ro:Option Nat)(a:Option Addr)(cap:Nat):Value:=match ro with
 |none => .tuple #[]
 |some n => .slice a n cap
def Tt (ro:Option Nat)(k g:Nat):PV:=match ro with
 |none => .tup []
 |some n => .als k g 0 n
variable [Globs]
theorem wR {α:Type}{enc:α->List PV}{l:List α}{d k g m sz kd f:Nat}{T ty:TypeId}{pos:String}{af:Array Edge}{x fop:Operand}{more:List Operand}{mv:List FuncId}{tys:Array TypeId}{K:St->Prop}(ro:Option Nat)(Q:List α->Prop)
  (hpl:∀x,(enc x).all jV=true) (hlen:∀x,(enc x).length=sz) (hsz:0<sz) (hf:s.ev fop=.clo f []) (hx:s.ev x=.als k g 0 m) (hm:m=l.length) (ho:s.own k=(g,some ⟨T,sz,l.map enc,kd⟩)) (hmore:more.map s.ev=mv.map fun f => .clo f []) (hcal:jL P f) (hro:∀n,ro=some n->n<=l.length)
  (h0:l=[]->Q []/\∀w:World,Globs.glob w->Calls P f (Value.slice none 0 0::mv.map fun f => .func (.func f) #[] #[]).toArray w fun e w'=>e=.returned (SX ro none 0)/\Below w.heap.size w w')
  (hcall:∀(w:World) (b cap:Nat) (cur:Array Value),w.heap[b]?=some (.cells cur T (0,0))->l.length<=cap->l.length*sz<=cur.size->cur.toList.take (l.length*sz)=mZ enc l->Globs.glob w ->
   Calls P f (Value.slice (some ⟨b,0,none⟩) l.length cap::mv.map fun f => .func (.func f) #[] #[]).toArray w fun e w'=>∃l' cur',Q l'/\l'.length=l.length/\e=.returned (SX ro (some ⟨b,0,none⟩) cap)/\Chg w w' b T cur'/\cur'.size=cur.size/\cur'.toList.take (l.length*sz)=mZ enc l')
  (h:∀l',Q l'->l'.length=l.length->K ((s.setOwn k g (some ⟨T,sz,l'.map enc,kd⟩)).putR d (Tt ro k g))):Sm P L s ⟨some d,.call ⟨.value fop,(x::more).toArray,tys⟩,ty,pos,af,none⟩ K:=by
 intro C a w Qp hG hs hN;obtain⟨γ,hs⟩:=hs;have hfv:=hs.ev fop;rw[hf]at hfv;obtain⟨vs,hv,hl,_⟩:=hfv.clo_inv;have hvs:vs=[]:=iB (by simpa using hl.symm);subst hvs;have hmv:more.map a.eval=mv.map fun f=>Value.func (.func f) #[] #[]:=by
  clear h0 hcall h
  induction more generalizing mv with
  |nil=>cases mv with
   |nil=>rfl
   |cons f mv=>simp at hmore
  |cons y more ih=>cases mv with
   |nil=>simp at hmore
   |cons f mv =>
    simp only[cn,List.cons.injEq]at hmore ⊢;have hy:=hs.ev y;rw[hmore.1]at hy;obtain⟨vs,hv,hl,_⟩:=hy.clo_inv;have hvs:vs=[]:=iB (by simpa using hl.symm);subst hvs;exact⟨hv,ih hmore.2 hN⟩
 have hxr:=hs.ev x;rw[hx]at hxr;have hals:=hs.als_at hxr ho;unfold Oper.wp;rw[nS (f:=f) O hv hcal,Oper.upon_enter];simp only[cn,cu,hmv];have hglob:=hG.glob _ hs.below;rcases hals with⟨h1,_,h3,h4⟩|⟨b,cap,cur,h1,h2,h3,h4,h5,h6,h7⟩
 .have hnil:l=[]:=iB J;rw[h4];refine((h0 hnil).2 w hglob).mono ?_;rintro e w' ⟨rfl,hbel⟩;have hs':=hs.ext hbel;have hst:s=s.setOwn k g (some ⟨T,sz,l.map enc,kd⟩):=by
   have:s.own=(s.setOwn k g (some ⟨T,sz,l.map enc,kd⟩)).own:=by
    funext r;by_cases hr:r=k
    .subst hr;rw[ar,ho]
    .rw[aO hr]
   cases s;simp only[St.setOwn]at this ⊢;rw[<-this]
  have hKs:=h [] (h0 hnil).1 (by rw[hnil]);rw[hnil]at hst;rw[<-hst]at hKs;refine⟨_,⟨γ,hs'.put (d:=some d) hN ?_⟩,hKs⟩;cases ro with
  |none=>exact .tup [] [] rfl fun i c v e=>by simp at e
  |some n =>
   have hn:=hro n O;rw[hnil]at hn;have hn0:n=0:=by simpa using hn
   subst hn0;refine .als (by simp[aB,ho]) fun _ l2 hl2=>?_;simp only[aB,ho,dG,bm]at hl2;subst hl2;exact .inl ⟨h1,O,O,O⟩
 .subst hm;rw[h2];simp only[gM];have h3:w.heap[b]?=some (.cells cur T (0,0)):=h3;have hz:(0+cap)*sz=cap*sz:=by rw[aM]
  have hcs:cur.size=cap*sz:=by rw[<-hz];exact h6
  have hle:l.length*sz<=cur.size:=by rw[hcs];exact cE _ h4
  obtain⟨cur0,g1,_,_,g4,g5⟩:=hs.site_at ho h1 hsz;have g1:w.heap[b]?=some (.cells cur0 T (0,0)):=g1;rw[h3]at g1;simp only[bm,Obj.cells.injEq,and_true]at g1;subst g1;have hflat:cur.toList.take (l.length*sz)=mZ enc l:=by
   apply i6;intro q;by_cases hq:q<l.length*sz
   .have hqi:q/sz<l.length:=(ua hsz).2 hq;have hqj:q%sz<sz:=ep _ hsz;have hqe:q/sz*sz+q%sz=q:=by rw[dg];exact mn q sz
    have hx1:l[q/sz]?=some l[q/sz]:=bX hqi;have hx2:(enc l[q/sz])[q%sz]?=some ((enc l[q/sz])[q%sz]'(by rw[hlen];exact hqj)):=bX _;obtain⟨v,e1,_,e3⟩:=g5 (q/sz) (q%sz) (enc l[q/sz]) _ (by rw[bw,hx1];rfl) hx2;have hpv:=ct.1 (hpl l[q/sz]) _ (bC hx2);have hv:=yw hpv (e3.rep bD);have:=qI hlen l (q/sz) (q%sz) _ _ hx1 hx2;rw[hqe]at this e1;rw[this,cJ,if_pos hq,gT,e1,hv]
   .rw[cJ,if_neg hq,fe (by rw[Hq hlen];omega)]
  refine(hcall w b cap cur h3 h4 hle hflat hglob).mono ?_;rintro e w' ⟨l',cur',hQ,hl',rfl,hchg,hcz,hfl⟩;have hsite:SiteOk (aB C γ (s.setOwn k g (some ⟨T,sz,l'.map enc,kd⟩)) (w.setRow b cur')) (some b) ⟨T,sz,l'.map enc,kd⟩:=by
   refine⟨(fun e=>by cases e),(fun b' _ hz=>by simp only at hz;omega),(fun b' _ hz=>by simp only at hz;omega),fun b' hb' _=>?_⟩;simp at hb';subst hb';refine⟨cur',setRow_heap w b cur cur' T (0,0) h3,hsz,by simp only[aF];rw[hl',hcz];exact hle,fun row hr=>?_,fun i j row pv e1 e2=>?_⟩
   .simp only[aW]at hr;obtain⟨y,_,rfl⟩:=hr;exact hlen y
   .simp only[bw,nH]at e1;obtain⟨y,hy,rfl⟩:=e1;have hpv:=ct.1 (hpl y) _ (bC e2);have:=GK hfl (qI hlen l' i j y pv hy e2);exact⟨Pa pv,by rw[<-gT];exact this,(kJ hpv w (fun _=>True)).2,Ej hpv⟩
  have hsim:=ML (c':=⟨T,sz,l'.map enc,kd⟩) hs ho h1 h3 hcz hchg O O (by simp[hl']) hsite;refine⟨_,⟨γ,hsim.put (d:=some d) hN ?_⟩,h l' hQ hl'⟩;cases ro with
  |none=>exact .tup [] [] rfl fun i c v e=>by simp at e
  |some n =>
   have hn:=hro n O;refine .als (by simp[aB,ar]) fun _ l2 hl2=>?_;simp only[aB,ar,dG,bm]at hl2;subst hl2;exact .inr ⟨b,cap,cur',h1,by simp[SX],hchg.at_,J,h5,by rw[hcz];exact h6,by simp;omega⟩
end
end Go.Pv
namespace Go.Proofs
open Go.Shelf
def Tryz.lays189_ren:Go.Shelf.Ren:=⟨fun|189=>109|125=>181|257=>180|128=>251|129=>252|294=>242|295=>243|296=>244|297=>245|298=>246|299=>247|216=>248|300=>249|301=>250|328=>293|329=>294|330=>295|331=>296|332=>297|215=>290|343=>313|n=>n,fun|28=>57|3=>3|46=>255|0=>0|51=>307|53=>217|4=>4|183=>301|182=>300|131=>231|5=>5|9=>9|218=>344|222=>348|228=>358|229=>359|n=>n,fun|n=>n⟩
theorem Tryz.lays189:Go.Proofs.Lays.n189 Tryz.prog Tryz.lays189_ren:={
 mixed:=by kernel_rfl
 f125:=Tryz.func181.trans (congrArg some (by kernel_rfl))
 f128:=Tryz.func251.trans (congrArg some (by kernel_rfl))
 f129:=Tryz.func252.trans (congrArg some (by kernel_rfl))
 f189:=Tryz.func109.trans (congrArg some (by kernel_rfl))
 f215:=Tryz.func290.trans (congrArg some (by kernel_rfl))
 f216:=Tryz.func248.trans (congrArg some (by kernel_rfl))
 f257:=Tryz.func180.trans (congrArg some (by kernel_rfl))
 f294:=Tryz.func242.trans (congrArg some (by kernel_rfl))
 f295:=Tryz.func243.trans (congrArg some (by kernel_rfl))
 f296:=Tryz.func244.trans (congrArg some (by kernel_rfl))
 f297:=Tryz.func245.trans (congrArg some (by kernel_rfl))
 f298:=Tryz.func246.trans (congrArg some (by kernel_rfl))
 f299:=Tryz.func247.trans (congrArg some (by kernel_rfl))
 f300:=Tryz.func249.trans (congrArg some (by kernel_rfl))
 f301:=Tryz.func250.trans (congrArg some (by kernel_rfl))
 f328:=Tryz.func293.trans (congrArg some (by kernel_rfl))
 f329:=Tryz.func294.trans (congrArg some (by kernel_rfl))
 f330:=Tryz.func295.trans (congrArg some (by kernel_rfl))
 f331:=Tryz.func296.trans (congrArg some (by kernel_rfl))
 f332:=Tryz.func297.trans (congrArg some (by kernel_rfl))
 f343:=Tryz.func313.trans (congrArg some (by kernel_rfl))
 t0:=Tryz.underlying0
 a0:=Tryz.isAgg0
 z0:=Tryz.sizeOf0
 v0:=Tryz.zeroValue0
 t3:=Tryz.underlying3
 a3:=Tryz.isAgg3
 z3:=Tryz.sizeOf3
 v3:=Tryz.zeroValue3
 t4:=Tryz.underlying4
 a4:=Tryz.isAgg4
 z4:=Tryz.sizeOf4
 v4:=Tryz.zeroValue4
 t5:=Tryz.underlying5
 a5:=Tryz.isAgg5
 z5:=Tryz.sizeOf5
 v5:=Tryz.zeroValue5
 t9:=Tryz.underlying9
 a9:=Tryz.isAgg9
 z9:=Tryz.sizeOf9
 v9:=Tryz.zeroValue9
 t28:=Tryz.underlying57
 a28:=Tryz.isAgg57
 z28:=Tryz.sizeOf57
 v28:=Tryz.zeroValue57
 t46:=Tryz.underlying255
 a46:=Tryz.isAgg255
 z46:=Tryz.sizeOf255
 v46:=Tryz.zeroValue255
 t51:=Tryz.underlying307
 a51:=Tryz.isAgg307
 z51:=Tryz.sizeOf307
 v51:=Tryz.zeroValue307
 t53:=Tryz.underlying217
 a53:=Tryz.isAgg217
 z53:=Tryz.sizeOf217
 v53:=Tryz.zeroValue217
 t131:=Tryz.underlying231
 a131:=Tryz.isAgg231
 z131:=Tryz.sizeOf231
 v131:=Tryz.zeroValue231
 t182:=Tryz.underlying300
 a182:=Tryz.isAgg300
 z182:=Tryz.sizeOf300
 v182:=Tryz.zeroValue300
 t183:=Tryz.underlying301
 a183:=Tryz.isAgg301
 z183:=Tryz.sizeOf301
 v183:=Tryz.zeroValue301
 t218:=Tryz.underlying344
 a218:=Tryz.isAgg344
 z218:=Tryz.sizeOf344
 v218:=Tryz.zeroValue344
 t222:=Tryz.underlying348
 a222:=Tryz.isAgg348
 z222:=Tryz.sizeOf348
 v222:=Tryz.zeroValue348
 t228:=Tryz.underlying358
 a228:=Tryz.isAgg358
 z228:=Tryz.sizeOf358
 v228:=Tryz.zeroValue358
 t229:=Tryz.underlying359
 a229:=Tryz.isAgg359
 z229:=Tryz.sizeOf359
 v229:=Tryz.zeroValue359 }
open Go.Sort Go.RowKit in
theorem Tryz.slices_Sort_int (blk off cap:Nat)(zs:List Int)(w:World)(hH:Holds (Value.int .i64) w blk off zs.toArray)(hblk:blk<w.heap.size)(hsz:zs.length<4611686018427387904) :
  Calls Tryz.prog 109 #[.slice (some ⟨blk,off,none⟩) zs.length cap] w fun e w' =>
   e=.returned (.tuple #[])/\∃n os,w'=grow (putRow (Value.int .i64) (Sort.ahead w n) blk off (zs.mergeSort fun x y=>decide (x<=y)).toArray) os:=Any.slices_Sort_int Tryz.lays189 blk off cap zs w hH hblk hsz
def Tryz.laysNm220_ren:Go.Shelf.Ren:=⟨fun|20=>299|n=>n,fun|22=>57|3=>3|4=>4|0=>0|n=>n,fun|n=>n⟩
theorem Tryz.laysNm220:Go.Proofs.Lays2.n20 Tryz.prog Tryz.laysNm220_ren:={
 mixed:=by kernel_rfl
 f20:=Tryz.func299.trans (congrArg some (by kernel_rfl))
 t0:=Tryz.underlying0
 a0:=Tryz.isAgg0
 z0:=Tryz.sizeOf0
 v0:=Tryz.zeroValue0
 t3:=Tryz.underlying3
 a3:=Tryz.isAgg3
 z3:=Tryz.sizeOf3
 v3:=Tryz.zeroValue3
 t4:=Tryz.underlying4
 a4:=Tryz.isAgg4
 z4:=Tryz.sizeOf4
 v4:=Tryz.zeroValue4
 t22:=Tryz.underlying57
 a22:=Tryz.isAgg57
 z22:=Tryz.sizeOf57
 v22:=Tryz.zeroValue57
 i3:=by kernel_rfl }
open Go.RowKit Go.Lib Go.Sort in
theorem Tryz.slices_Compact_int (blk off cap:Nat)(zs:List Int)(w:World)(hH:Holds (Value.int .i64) w blk off zs.toArray)(hsz:zs.length<=9223372036854775807)(hcap:zs.length<=cap) :
  Calls Tryz.prog 299 #[.slice (some ⟨blk,off,none⟩) zs.length cap] w fun e w'=>e=.returned (.slice (some ⟨blk,off,none⟩) (Lib.compact zs).length cap)/\∃q,w'=putRow (Value.int .i64) (Sort.ahead w q) blk off (Lib.compact zs++List.replicate (zs.length-(Lib.compact zs).length) 0).toArray:=Any.slices_Compact_int Tryz.laysNm220 blk off cap zs w hH hsz hcap
open Go.RowKit Go.Lib Go.Sort in
theorem Tryz.slices_Compact_int_empty (a:Option Addr)(cap:Nat)(w:World) :
  Calls Tryz.prog 299 #[.slice a 0 cap] w fun e w'=>e=.returned (.slice a 0 cap)/\w'=w:=Any.slices_Compact_int_empty Tryz.laysNm220 a cap w
open Go.RowKit Go.Sort in
theorem Tryz.slices_Sort_int_none (p:Option Addr)(cap:Nat)(w:World) :
  Calls Tryz.prog 109 #[.slice p 0 cap] w fun e w'=>e=.returned (.tuple #[])/\w'=w:=Any.slices_Sort_int_none Tryz.lays189 p cap w
end Go.Proofs
set_option maxHeartbeats 2000000
namespace Go.Pv
attribute [local irreducible] PWP POps PQuiet PSem aE aw aj ak
open Go.Proofs Go.RowKit Go.Sort
theorem Sim.cutS {C:Ctx}{γ:Nat->Option Nat}{s:St}{a:Act}{w:World}(h:Sim C γ s a w){k g n:Nat}{c:Cont}(ho:s.own k=(g,some c))(hz:0<c.sz):Sim C γ (s.setOwn k (g+1) (some ⟨c.ty,c.sz,c.rows.take n,c.kind⟩)) a w:=by
 have hown:∀k' c'',((s.setOwn k (g+1) (some ⟨c.ty,c.sz,c.rows.take n,c.kind⟩)).own k').2=some c''->∃c3,(s.own k').2=some c3:=by
  intro k' c'' hc;by_cases hk:k'=k
  .subst hk;exact⟨c,by rw[ho]⟩
  .rw[aO hk]at hc;exact⟨c'',hc⟩
 have hok:∀b',jU C γ s w b'->jU C γ (s.setOwn k (g+1) (some ⟨c.ty,c.sz,c.rows.take n,c.kind⟩)) w b':=by
  rintro b' ⟨f1,f2,f3⟩;exact⟨f1,f2,fun k' c'' hc=>let ⟨c3,hc3⟩:=hown k' c'' hc;f3 k' c3 hc3⟩
 have hle:(aB C γ s w).Le (aB C γ (s.setOwn k (g+1) (some ⟨c.ty,c.sz,c.rows.take n,c.kind⟩)) w):=by
  refine⟨hok,fun b' hb'=>⟨hb'.1,hok b' hb'.2⟩,fun b' hb'=>hb'.2,fun b' _=>rfl,fun k'=>?_,fun k' l' hg hl=>?_,fun k' l' b' cur'' _ hl hb' hh'=>⟨cur'',hh',O⟩⟩
  .show(s.own k').1<=((s.setOwn k (g+1) _).own k').1;by_cases hk:k'=k
   .subst hk;rw[ar,ho];exact Nat.le_succ _
   .rw[aO hk];exact aY
  .by_cases hk:k'=k
   .subst hk;have:((s.setOwn k' (g+1) (some ⟨c.ty,c.sz,c.rows.take n,c.kind⟩)).own k').1=(s.own k').1:=hg;rw[ar,ho]at this;simp at this
   .simp only[aB,aO hk]at hl;exact⟨l',hl,O,O,O,aY⟩
 refine⟨h.defers,h.size,fun r=>(h.regs r).mono hle,fun k' c'' hc=>?_,fun k1 k2 c1 c2 b' e1 e2 e3 e4=>?_,fun k' c'' b' e1 e2=>?_,h.below,h.top,fun c v hk=>(h.kept c v hk).mono hle⟩
 .by_cases hk:k'=k
  .subst hk;rw[ar]at hc;simp at hc;subst hc;have hs:=h.sites k' c (by rw[ho]);refine⟨fun hb=>by simp[hs.emp hb],(fun b' _ hz'=>by simp only at hz';omega),(fun b' _ hz'=>by simp only at hz';omega),fun b' hb' _=>?_⟩;obtain⟨cur,h1,h2,h3,h4,h5⟩:=hs.at_ b' hb' hz;refine⟨cur,h1,h2,?_,fun row hr=>h4 row (dD hr),fun i j row pv e1 e2=>?_⟩
   .simp only[bc];exact bK (cE _ (Af _ _)) h3
   .simp only[cJ]at e1;split at e1
    .obtain⟨v,f1,f2,f3⟩:=h5 i j row pv e1 e2;exact⟨v,f1,f2,f3.mono hle⟩
    .cases e1
  .rw[aO hk]at hc;exact(h.sites k' c'' hc).mono hle fun b' hb'=>rfl
 .obtain⟨d1,f1⟩:=hown k1 c1 e1;obtain⟨d2,f2⟩:=hown k2 c2 e2;exact h.inj k1 k2 d1 d2 b' f1 f2 e3 e4
 .obtain⟨d1,f1⟩:=hown k' c'' e1;exact h.base k' d1 b' f1 e2
theorem Ghost.cut {s:St}{k g t n sz kd:Nat}{T:TypeId}{rows:List (List PV)}(ho:s.own k=(g,some ⟨T,sz,rows,kd⟩))(hr:s.reg t=.als k g 0 n)(hn:n<=rows.length)(hz:Nat.blt 0 sz=true) :
  Ghost s ((s.setOwn k (g+1) (some ⟨T,sz,rows.take n,kd⟩)).putR t (.als k (g+1) 0 n)):=by
 intro C a w hX ⟨γ,h⟩;have hz:0<sz:=by simpa using hz
 have h':=h.cutS (n:=n) ho hz;have hals:=h.als_at (by rw[<-hr];exact h.regs t) ho;refine⟨γ,h'.defers,h'.size,fun r=>?_,h'.sites,h'.inj,h'.base,h'.below,h'.top,h'.kept⟩;show Rep (aB C γ (s.setOwn k (g+1) (some ⟨T,sz,rows.take n,kd⟩)) w) (bif Nat.beq r t then _ else _) _;by_cases hrt:r=t
 .subst hrt;rw[ms,cond_true];refine .als (by simp[aB,ar]) fun _ l hl=>?_;simp only[aB,ar,dG,bm]at hl;subst hl;rcases hals with⟨h1,h2,h3,h4⟩|⟨b,cap,cur,h1,h2,h3,h4,h5,h6,h7⟩
  .exact .inl ⟨h1,h2,h3,h4⟩
  .exact .inr ⟨b,cap,cur,h1,h2,h3,h4,h5,h6,by simp;omega⟩
 .rw[cS hrt,cond_false];exact h'.regs r
def f8 (l:List Int):List Int:=l.mergeSort fun x y=>decide (x<=y)
def AB (l:List Int):List Int:=Lib.compact l++List.replicate (l.length-(Lib.compact l).length) 0
theorem BC (x:Int):(eN x).all jV=true:=rfl
theorem vM {w:World}{b:Nat}{T:TypeId}{cur:Array Value}{l:List Int}(hh:w.heap[b]?=some (.cells cur T (0,0)))(hc:cur.toList.take (l.length*1)=mZ eN l):Holds (Value.int .i64) w b 0 l.toArray:=fun j hj=>by
 have hj':j<l.length:=by simpa using hj
 have hx:l[j]?=some l[j]:=bX hj';have h1:=GK hc (qI (sz:=1) (fun _=>rfl) l j 0 l[j] (I l[j]) hx O);rw[ux,jH]at h1;refine⟨?_,frozen_of_row w b _ cur T hh⟩;rw[ca hh,aM,<-gT,h1];simp[hj',Pa]
theorem ya (l:List Int):mZ eN l=l.map (Value.int .i64):=by
 induction l with
 |nil=>rfl
 |cons x l ih=>rw[mZ,j5,cn,<-ih];rfl
theorem MI:jL Tryz.prog 109:=⟨_,Go.Proofs.Tryz.func109,Y,O⟩
theorem MJ:jL Tryz.prog 299:=⟨_,Go.Proofs.Tryz.func299,Y,O⟩
section
variable {C:Ctx}{s:St}{d k g m kd:Nat}{ty:TypeId}{pos:String}{af:Array Edge}{x:Operand}{tys:Array TypeId}{K:St->Prop}
theorem LC (l:List Int)(hl:l.length<=1000000)(hx:s.ev x=.als k g 0 m)(hm:m=l.length)(ho:s.own k=(g,some ⟨3,1,l.map eN,kd⟩))
  (h:K ((s.setOwn k g (some ⟨3,1,(f8 l).map eN,kd⟩)).putR d (.tup []))):Sm Tryz.prog lay.get s ⟨some d,.call ⟨.value (.func 109),#[x],tys⟩,ty,pos,af,none⟩ K:=by
 refine wR (enc:=eN) (l:=l) (sz:=1) (more:=[]) (mv:=[]) none (fun l'=>l'=f8 l) BC (fun _=>rfl) Y O hx hm ho O MI (fun n h=>by cases h) (fun hl0=>?_) (fun w b cap cur hh h1 h2 hc hg=>?_) (fun l' hQ _=>?_)
 .subst hl0;refine⟨by simp[f8],fun w _=>(Tryz.slices_Sort_int_none none 0 w).mono ?_⟩;rintro e w' ⟨rfl,rfl⟩;exact⟨O,Below.refl _ _⟩
 .have hb:b<w.heap.size:=(iy hh).1;refine(Tryz.slices_Sort_int b 0 cap l w (vM hh hc) hb J).mono ?_;rintro e w' ⟨rfl,n,os,hw⟩;have hlen:(f8 l).length=l.length:=by simp[f8]
  have hchg:=Fj (T:=3) hh hw;refine⟨f8 l,_,O,hlen,O,hchg,pl _ _ _ _,?_⟩;have:=pm (Value.int .i64) (f8 l).toArray cur (by simp[hlen];omega);rw[oz,hlen]at this;rw[ux,ya];exact this
 .subst hQ;exact h
theorem j1 (l:List Int):(Lib.compact l).length<=l.length:=by
 rw[Lib.compact,Lib.compactUpTo,aF];exact bK (List.length_filter_le _ _) ap
theorem rn (l:List Int):(AB l).length=l.length:=by
 have:=j1 l;simp[AB];omega
theorem Br (l:List Int)(hl:l.length<=1000000)(hx:s.ev x=.als k g 0 m)(hm:m=l.length)(ho:s.own k=(g,some ⟨3,1,l.map eN,kd⟩))
  (h:K ((s.setOwn k g (some ⟨3,1,(AB l).map eN,kd⟩)).putR d (.als k g 0 (Lib.compact l).length))):Sm Tryz.prog lay.get s ⟨some d,.call ⟨.value (.func 299),#[x],tys⟩,ty,pos,af,none⟩ K:=by
 refine wR (enc:=eN) (l:=l) (sz:=1) (more:=[]) (mv:=[]) (some (Lib.compact l).length) (fun l'=>l'=AB l) BC (fun _=>rfl) Y O hx hm ho O MJ (fun n h=>by cases h;exact j1 l) (fun hl0=>?_) (fun w b cap cur hh h1 h2 hc hg=>?_) (fun l' hQ _=>?_)
 .subst hl0;refine⟨O,fun w _=>(Tryz.slices_Compact_int_empty none 0 w).mono ?_⟩;rintro e w' ⟨rfl,rfl⟩;exact⟨O,Below.refl _ _⟩
 .refine(Tryz.slices_Compact_int b 0 cap l w (vM hh hc) J h1).mono ?_;rintro e w' ⟨rfl,q,hw⟩;have hchg:=Fj (T:=3) hh (hw.trans (Go.Sort.grow_empty _).symm);refine⟨AB l,_,O,rn l,O,hchg,pl _ _ _ _,?_⟩;have:=pm (Value.int .i64) (AB l).toArray cur (by simp[rn];omega);rw[oz,rn]at this;rw[ux,ya];exact this
 .subst hQ;exact h
end
open Go.Proofs
def dc (l:List SR):List Int:=Lib.compact (f8 (l.map (·.x)))
theorem wt (l:List SR)(hl:l8 l)(h12:l.length<=1000):aU 257 [.sl (l.map eS)] (.sl ((dc l).map eN)):=by
 have hml:(l.map eS).length=l.length:=ap;have hrows:∀(k:Nat) x,l[k]?=some x->((l.take (k+1)).map (·.x)).map eN=((l.take k).map (·.x)).map eN++[eN x.x]:=fun k x hx=>by rw[bR hx,bj,bj];rfl
 refine aD Proofs.Tryz.func257 ?_
 ((repeat (first|refine bJ ?_ | refine eg ?_ | refine dO ?_ | refine dH ?_));refine bZ ?_)
 refine lY O trivial ?_
 ((repeat (first|refine bJ ?_ | refine eg ?_ | refine dO ?_ | refine dH ?_));refine bZ ?_)
 (first|refine aC (kF 3 1 0 O O ?_)|refine aC (kE 3 1 0 O O ?_))
 refine H ?_;refine ai (fun k=>k<=l.length) (fun k=>[(3,.als 3 (k+1) 0 (((l.take k).map (·.x)).map eN).length),(6,.sl (l.map eS)),(7,I l.length),(8,I k)]) (fun k=>[(3,k+1,⟨3,1,((l.take k).map (·.x)).map eN,0⟩)]) (fun k=>l.length-k) 0 (aP _) ⟨O,O,by rw[<-hml];rfl,ah⟩ ?_;intro k s hk;refine D ?_ ?_<;>intro h
 .have hlt:k<l.length:=cw h;clear h;obtain⟨x,hx⟩:=ay hlt;have hw:=dN k;refine aN hx ?_;refine H ?_;refine aC (bb 0 O O O O O O O O O O O ah O ?_);refine H ?_;refine aC (bO 0 O O O O O O O O O O O ah fW O O aS aS ?_);refine H ?_;refine⟨k+1,hlt,J,?_,O,O,congrArg I hw,?_,bh⟩
  .rw[hrows k x hx];rfl
  .rw[hrows k x hx];rfl
 .have hge:k=l.length:=co h;subst hge;clear h;rw[bI];have hal:(l.map (·.x)).length<=1000000:=by simp;omega
  generalize hX:l.map (·.x)=X at *
  have hsl:(f8 X).length<=1000000:=by rw[f8,List.length_mergeSort];exact hal
  (refine cV 7 ?_;refine aR 1 ?_)
  refine iQ O ?_;refine bJ ?_;refine br O (LC X hal O ap O ?_);refine aT ?_
  (refine cV 8 ?_;refine aR 1 ?_)
  refine iQ O ?_;refine bJ ?_;refine br O (Br (f8 X) hsl O (by simp[f8]) O ?_);refine aT ?_;refine lY O trivial ?_;refine bJ ?_;refine dO ?_;refine ao (Ghost.cut (k:=3) (t:=2) (rows:=(AB (f8 X)).map eN) O O (by rw[aF,rn];exact j1 _) O) ?_;have hc:((AB (f8 X)).map eN).take (Lib.compact (f8 X)).length=(dc l).map eN:=by
   rw[<-j9,AB,uq,dc,hX]
  have hcl:(Lib.compact (f8 X)).length=(dc l).length:=by rw[dc,hX]
  rw[hc];refine H ?_;exact lC O O O ⟨O,O,by show _=(List.map eN (dc l)).length;rw[aF,hcl]⟩ O
theorem Ei {l:List SR}{x:Int}(h:x∈dc l):∃s∈l,s.x=x:=by
 have h1:x∈f8 (l.map (·.x)):=by
  rw[dc,Lib.compact,Lib.compactUpTo]at h;obtain⟨i,hi,rfl⟩:=aW.1 h;have hi:=(Al.1 hi).1;have hi:i<(f8 (l.map (·.x))).length:=by simpa using hi
  have e:(f8 (l.map (·.x))).toArray[i]! = (f8 (l.map (·.x)))[i]:=by simp[hi]
  rw[e];exact List.getElem_mem hi
 rw[f8,List.mem_mergeSort]at h1;obtain⟨s,hs,rfl⟩:=aW.1 h1;exact⟨s,hs,O⟩
theorem lj {l:List SR}(hc:ej l=0){x:Int}(h:x∈dc l) : -1000000<=x/\x<=1000000:=by
 obtain⟨s,hs,rfl⟩:=Ei h;rw[ej]at hc;split at hc
 .omega
 .have:=pH hc s hs;rw[rJ]at this;split at this
  .omega
  .rename_i h1;omega
theorem mL (l:List SR):(dc l).length<=l.length:=by
 have:=j1 (f8 (l.map (·.x)));rw[dc];simp[f8]at this ⊢;exact this
def xN (x:Int):AR:=⟨ofQ ((-x:Int):Rat),ofQ ((1:Int):Rat)⟩
def Fu (x:Int):AR:=⟨ofQ (x:Rat),ofQ ((-1:Int):Rat)⟩
def gj (l:List SR):List AR:=(dc l).map xN++(dc l).map Fu
theorem Dj (l:List SR)(hl:l8 l)(h12:l.length<=1000)(hck:ej l=0):aU 187 [.sl (l.map eS)] (.sl ((gj l).map eA)):=by
 have hp:=wt l hl h12;have hrg:∀x∈dc l,-1000000<=x/\x<=1000000:=fun x hx=>lj hck hx;have hpl:=mL l;have w1:=cO 1 ⟨Y,Y⟩;have w2:=cO (-1) ⟨Y,Y⟩;rw[gj];generalize dc l=Pl at *
 have hml:(Pl.map eN).length=Pl.length:=ap;have hrows:∀(k:Nat) x,Pl[k]?=some x->((Pl.take (k+1)).map xN).map eA=((Pl.take k).map xN).map eA++[eA (xN x)]:=fun k x hx=>by rw[bR hx,bj,bj];rfl
 have hrows2:∀(k:Nat) x,Pl[k]?=some x->(Pl.map xN++(Pl.take (k+1)).map Fu).map eA=(Pl.map xN++(Pl.take k).map Fu).map eA++[eA (Fu x)]:=fun k x hx=>by rw[bR hx];simp[bj]
 refine aD Proofs.Tryz.func187 ?_
 ((repeat (first|refine bJ ?_ | refine eg ?_ | refine dO ?_ | refine dH ?_));refine bZ ?_)
 refine lY O trivial ?_
 ((repeat (first|refine bJ ?_ | refine eg ?_ | refine dO ?_ | refine dH ?_));refine bZ ?_)
 (first|refine aC (kF 48 8 1 O O ?_)|refine aC (kE 48 8 1 O O ?_))
 refine G hp ?_;refine H ?_;refine ai (fun k=>k<=Pl.length) (fun k=>[(0,.sl (l.map eS)),(3,.als 3 (k+1) 0 (((Pl.take k).map xN).map eA).length),(9,.sl (Pl.map eN)),(10,I Pl.length),(11,I k)]) (fun k=>[(3,k+1,⟨48,8,((Pl.take k).map xN).map eA,1⟩)]) (fun k=>Pl.length-k) 0 (aP _) ⟨O,O,O,by rw[<-hml];rfl,ah⟩ ?_;intro k s hk;refine D ?_ ?_<;>intro h
 .have hlt:k<Pl.length:=cw h;clear h;obtain⟨x,hx⟩:=ay hlt;have hr:=hrg x (bC hx);have hnx:=cO (-x) ⟨J,J⟩;have hw:=dN k;have hn:IntKind.i64.wrap (0-x) = -x:=by rw[wrap_i64 J J];omega
  refine aN hx ?_;refine H ?_;rw[hn];refine oJ O O O hnx O O ?_;refine G w1 ?_;refine H ?_;refine aC (bb 1 O O O O O O O O O O O ah O ?_);refine H ?_;refine aC (bO 1 O O O O O O O O O O O ah fW O O aS aS ?_);refine H ?_;refine⟨k+1,hlt,J,O,?_,O,O,congrArg I hw,?_,bh⟩
  .rw[hrows k x hx];rfl
  .rw[hrows k x hx];rfl
 .have hge:k=Pl.length:=co h;subst hge;clear h;rw[bI];refine G hp ?_;refine H ?_;refine ai (fun k=>k<=Pl.length) (fun k=>[(3,.als 3 (Pl.length+k+1) 0 ((Pl.map xN++(Pl.take k).map Fu).map eA).length),(25,.sl (Pl.map eN)),(26,I Pl.length),(27,I k)]) (fun k=>[(3,Pl.length+k+1,⟨48,8,(Pl.map xN++(Pl.take k).map Fu).map eA,1⟩)]) (fun k=>Pl.length-k) 0 (aP _) ⟨by rw[dK,dp,cu];rfl,O,by rw[<-hml];rfl,O,by rw[dK,dp,cu];rfl,bh⟩ ?_;intro k s hk;refine D ?_ ?_<;>intro h
  .have hlt:k<Pl.length:=cw h;clear h;obtain⟨x,hx⟩:=ay hlt;have hr:=hrg x (bC hx);have hnx:=cO x ⟨J,J⟩;have hw:=dN k;refine aN hx ?_;refine G hnx ?_;refine G w2 ?_;refine H ?_;refine aC (bb 1 O O O O O O O O O O O ah O ?_);refine H ?_;refine aC (bO 1 O O O O O O O O O O O ah fW O O aS aS ?_);refine H ?_;refine⟨k+1,hlt,J,?_,O,O,congrArg I hw,?_,bh⟩
   .rw[hrows2 k x hx];rfl
   .rw[hrows2 k x hx];rfl
  .have hge:k=Pl.length:=co h;subst hge;clear h;rw[bI];refine H ?_;exact lC O O O ah O
def iI:AR:=⟨ofQ ((1:Int):Rat),ofQ ((0:Int):Rat)⟩
noncomputable def p_ (b:BR)(r:AR):Bool:=sD b r.z.val r.t.val
noncomputable def nQ (b:BR):PV:=if p_ b iI=true then .tup [.agg (eA iI),I 12] else match (gj b.l).find? (p_ b) with
 |some r => .tup [.agg (eA r),I 13]
 |none => .tup [.agg (zN++zN),I 0]
theorem vI {z:Int}(h:i64 z):Vq (ofQ (z:Rat)) ((ofQ (z:Rat)).val) 4:=by
 have hz:Zb z:=aI h.1 h.2;have:=Vq.ofQ (h:=HQ.int (z:=z));rw[ofQ_val];exact this
theorem GN {l:List SR}(hck:ej l=0){r:AR}(h:r∈gj l):Va r r.z.val r.t.val 4 4:=by
 rw[gj,dJ]at h;rcases h with h|h
 .obtain⟨x,hx,rfl⟩:=aW.1 h;have:=lj hck hx;exact⟨vI ⟨J,J⟩,vI ⟨Y,Y⟩⟩
 .obtain⟨x,hx,rfl⟩:=aW.1 h;have:=lj hck hx;exact⟨vI ⟨J,J⟩,vI ⟨Y,Y⟩⟩
theorem Fw:Va iI iI.z.val iI.t.val 4 4:=⟨vI ⟨Y,Y⟩,vI ⟨Y,Y⟩⟩
theorem Hn {α:Type}(p:α->Bool){l:List α}{i:Nat}{x:α}(h:l[i]?=some x):(l.drop i).find? p=if p x=true then some x else(l.drop (i+1)).find? p:=by
 obtain⟨hl,rfl⟩:=cb h;rw[jm hl,List.find?_cons];cases p l[i]<;>simp
theorem tt (b:BR)(hb:b.Ok):aU 119 [.agg (eB b)] (nQ b):=by
 have w1:=cO 1 ⟨Y,Y⟩;have w0:=cO 0 ⟨Y,Y⟩;have hd:=tu b hb iI Fw Y Y;have ht:=Dj b.l hb.lim.l (by have:=hb.few.1;omega) hb.chkL;have hva:∀r∈gj b.l,aU 186 [.agg (eB b),.agg (eA r)] (.bool (p_ b r)):=fun r hr=>tu b hb r (GN hb.chkL hr) Y Y;rw[show sD b iI.z.val iI.t.val=p_ b iI from O]at hd;have htl:(gj b.l).length<=1000:=by
  have:=mL b.l;have:=hb.few.1;rw[gj];simp;omega
 generalize hR:nQ b=R;rw[nQ]at hR;generalize gj b.l=T at *
 have hml:(T.map eA).length=T.length:=ap;generalize hfn:p_ b=fn at *
 clear hfn;obtain⟨w,ba,l⟩:=b;simp only at *
 rw[iI]at *
 by_cases h1:fn ⟨ofQ ((1:Int):Rat),ofQ ((0:Int):Rat)⟩=true
 .rw[if_pos h1]at hR;rw[h1]at hd;subst hR;refine aD Proofs.Tryz.func119 ?_;refine G w1 ?_;refine G w0 ?_;refine ax hd ?_;exact cA
 .rw[if_neg h1]at hR;rw[j6]at h1;rw[h1]at hd;refine aD Proofs.Tryz.func119 ?_;refine G w1 ?_;refine G w0 ?_;refine ax hd ?_;refine G ht ?_;refine H ?_;refine ai (fun i=>i<=T.length/\(T.drop i).find? fn=T.find? fn) (fun i=>[(1,.ptr 1 1 0 0),(2,.ptr 2 1 0 0),(16,.sl (T.map eA)),(17,I T.length),(18,I (i:Nat))]) (fun i=>[(1,1,⟨128,6,[eB ⟨w,ba,l⟩],2⟩),(2,1,⟨48,8,[zN++zN],2⟩)]) (fun i=>T.length-i) 0 ⟨aP _,by rw[fO]⟩ ⟨O,O,O,by rw[<-hml];rfl,ah⟩ ?_;intro i s ⟨hi,hF⟩;refine D ?_ ?_<;>intro h
  .have hlt:i<T.length:=cw h;clear h;obtain⟨r,hr⟩:=ay hlt;have hrr:=hva r (bC hr);have hw:=dN i;rw[Hn fn hr]at hF;cases hfr:fn r with
   |true =>
    rw[hfr]at hrr;rw[if_pos hfr]at hF;rw[<-hF]at hR;simp only at hR;subst hR;refine aN hr ?_;refine ax hrr ?_;exact cA
   |false =>
    rw[hfr]at hrr;rw[if_neg (by rw[hfr];decide)]at hF;refine aN hr ?_;refine ax hrr ?_;refine H ?_;exact⟨i+1,⟨J,hF⟩,J,O,O,O,O,congrArg I hw,ah⟩
  .have hie:i=T.length:=co h;clear h;rw[hie,gX,List.find?_nil]at hF;rw[<-hF]at hR;simp only at hR;subst hR;exact cA
def oY {α:Type}(d:α->Rat)(l:List α)(x:α):Nat->Nat
 |0=>0
 |k+1=>match l[k]? with
  |some y=>if d x<d y then oY d l x k else k+1
  |none=>oY d l x k
def tG {α:Type}(d:α->Rat)(l:List α)(x:α):Nat:=oY d l x l.length
def cD {α:Type}(l:List α)(x:α)(k:Nat):List α:=l.take k++x::l.drop k
def kw {α:Type}(d:α->Rat)(l:List α)(x:α):List α:=cD l x (tG d l x)
def b_ {α:Type}(d:α->Rat)(l:List α):List α:=l.foldl (kw d) []
theorem Gt {α:Type}{d:α->Rat}{l:List α}{x:α}{j:Nat}(h2:j=0\/∃y,l[j-1]?=some y/\d y<=d x):∀k,j<=k->k<=l.length->(∀q y,j<=q->q<k->l[q]?=some y->d x<d y)->oY d l x k=j
 |0,hk,_,_=>by rw[oY];omega
 |k+1,hk,hl,h1=>by
  obtain⟨y,hy⟩:∃y,l[k]?=some y:=⟨l[k],bX J⟩;rw[oY,hy];dsimp only;by_cases he:j=k+1
  .subst he;rcases h2 with h2|⟨z,hz,hd⟩
   .omega
   .rw[iC,hy]at hz;cases hz;rw[if_neg bP]
  .rw[if_pos (h1 k y J J hy)];exact Gt h2 k J J fun q z hq hq2=>h1 q z hq J
theorem oG {α:Type}{d:α->Rat}{l:List α}{x:α}{j:Nat}(hj:j<=l.length)(h1:∀q y,j<=q->l[q]?=some y->d x<d y)(h2:j=0\/∃y,l[j-1]?=some y/\d y<=d x):tG d l x=j :=
 Gt h2 _ hj (aY) fun q y hq _=>h1 q y hq
theorem Cu {α β:Type}(d:β->Rat)(f:α->β)(l:List α)(x:α):∀k,oY d (l.map f) (f x) k=oY (fun a=>d (f a)) l x k
 |0=>rfl
 |k+1=>by
  rw[oY,oY,bw,Cu d f l x k];cases l[k]? <;> rfl
theorem JW {α β:Type}(d:β->Rat)(f:α->β)(l:List α)(x:α):kw d (l.map f) (f x)=(kw (fun a=>d (f a)) l x).map f:=by
 rw[kw,kw,tG,aF,Cu,<-tG,cD,cD];simp[j9,List.map_drop]
theorem IB {α β:Type}(d:β->Rat)(f:α->β)(l:List α):b_ d (l.map f)=(b_ (fun a=>d (f a)) l).map f:=by
 have:∀(l acc:List α),(l.map f).foldl (kw d) (acc.map f)=(l.foldl (kw fun a=>d (f a)) acc).map f:=by
  intro l
  induction l with
  |nil=>intro acc;rfl
  |cons x l ih=>intro acc;rw[cn,fB,fB,JW,ih]
 exact this l []
theorem Hz {α:Type}(d:α->Rat)(l:List α)(x:α):(kw d l x).Perm (x::l):=by
 rw[kw,cD];exact Ag.trans (by rw[ef])
theorem jx {α:Type}(d:α->Rat)(l:List α)(x:α):b_ d (l++[x])=kw d (b_ d l) x:=by
 rw[b_,kA];rfl
theorem iG {α:Type}(d:α->Rat)(l:List α):(b_ d l).Perm l:=by
 have:∀(l acc:List α),(l.foldl (kw d) acc).Perm (acc++l):=by
  intro l
  induction l with
  |nil=>intro acc;simp
  |cons x l ih =>
   intro acc;rw[fB];refine(ih _).trans (((Hz d acc x).append_right l).trans ?_);rw[uh];exact Ag.symm
 exact this l []
theorem fj {α:Type}(d:α->Rat)(l:List α):(b_ d l).length=l.length:=(iG d l).length_eq
theorem qO {α:Type}{l:List α}{x:α}{k:Nat}(hk:k<=l.length):(cD l x k)[k]?=some x:=by
 rw[cD,fc aS];simp[jD hk]
theorem nF {α:Type}{l:List α}{x:α}{k q:Nat}(hk:k<=l.length)(h:q<k):(cD l x k)[q]? = l[q]? := by
 rw[cD,fN aS,cJ,if_pos h]
theorem pM {α:Type}{l:List α}{x y:α}{k:Nat}(hk:k+1<=l.length)(hy:l[k]?=some y):((cD l x (k+1)).set (k+1) y).set k x=cD l x k:=by
 obtain⟨hlt,rfl⟩:=cb hy;apply i6;intro q;have hl1:(cD l x (k+1)).length=l.length+1:=by simp[cD];omega
 simp only[z8,jF,hl1];by_cases h1:k=q
 .subst h1;rw[if_pos O,if_pos J,qO J]
 .rw[if_neg h1];by_cases h2:k+1=q
  .subst h2;rw[if_pos O,if_pos J,cD,fc aS];simp only[bc,jD (show k<=l.length by omega),Nat.add_sub_cancel_left,tX,dF,jH];exact(bX hlt).symm
  .rw[if_neg h2];rcases bG q k with h|h
   .rw[nF J h,nF hk J]
   .rw[cD,cD,fc aS,fc aS];simp only[bc,jD hk,jD (show k<=l.length by omega)];obtain⟨r,rfl⟩:∃r,q=k+2+r:=⟨q-(k+2),J⟩;rw[show k+2+r-(k+1)=r+1 by omega,show k+2+r-k=r+1+1 by omega,tX,tX,dF,dF];congr 1;omega
theorem ss {α:Type}(d:α->Rat)(l:List α)(x:α):∀k,k<=l.length->(oY d l x k=0\/∃y,l[oY d l x k-1]?=some y/\d y<=d x)/\∀q y,oY d l x k<=q->q<k->l[q]?=some y->d x<d y
 |0,_=>⟨.inl rfl,fun q y _ hq=>by omega⟩
 |k+1,hk=>by
  obtain⟨y,hy⟩:∃y,l[k]?=some y:=⟨l[k],bX J⟩;obtain⟨h1,h2⟩:=ss d l x k J;rw[oY,hy];dsimp only;split
  .rename_i hlt;refine⟨h1,fun q z hq hqk hz=>?_⟩;by_cases he:q=k
   .subst he;rw[hy]at hz;cases hz;exact hlt
   .exact h2 q z hq J hz
  .rename_i hlt;exact⟨.inr ⟨y,by rw[iC];exact hy,bP⟩,fun q z hq hqk=>by omega⟩
theorem BS {α:Type}{d:α->Rat}{l:List α}(x:α)(h:l.Pairwise fun a b=>d a<=d b):(kw d l x).Pairwise fun a b=>d a<=d b:=by
 obtain⟨h1,h2⟩:=ss d l x l.length (aY);rw[kw,cD,tG];generalize oY d l x l.length=k at *
 have hbefore:∀a∈l.take k,d a<=d x:=by
  intro a ha;rcases h1 with h1|⟨y,hy,hyx⟩
  .subst h1;simp at ha
  .obtain⟨i,hi,rfl⟩:=mw ha;have hi':i<k:=by simp at hi;omega
   have hil:i<l.length:=by simp at hi;omega
   obtain⟨hk1,hk2⟩:=cb hy;rw[List.getElem_take];by_cases he:i=k-1
   .subst he;rw[hk2];exact hyx
   .have:=zE.1 h i (k-1) hil hk1 J;rw[hk2]at this;grind
 have hbehind:∀a∈l.drop k,d x<=d a:=by
  intro a ha;obtain⟨i,hi,rfl⟩:=mw ha;have hil:k+i<l.length:=by simp at hi;omega
  have:=h2 (k+i) l[k+i] J hil (bX hil);rw[List.getElem_drop];grind
 refine mu.2 ⟨h.sublist (ug _ _),jq.2 ⟨hbehind,h.sublist (z_ _ _)⟩,fun a ha b hb=>?_⟩;rcases bV.1 hb with rfl|hb
 .exact hbefore a ha
 .have:=hbefore a ha;have:=hbehind b hb;grind
theorem jb {α:Type}(d:α->Rat)(l:List α):(b_ d l).Pairwise fun a b=>d a<=d b:=by
 have:∀(l acc:List α),acc.Pairwise (fun a b=>d a<=d b)->(l.foldl (kw d) acc).Pairwise fun a b=>d a<=d b:=by
  intro l
  induction l with
  |nil=>intro acc h;exact h
  |cons x l ih=>intro acc h;exact ih _ (BS x h)
 exact this l [] .nil
theorem dR {L:dj}{fn:Func}{K:St->PV->Prop}{s:St}(h:fn.results.toList=[])(hk:K s (.tup [])):ak L fn K .normal s:=by
 unfold ak;exact⟨[],True,by rw[h];rfl,trivial,hk⟩
structure BN where
 at':RR
 up:RR
def cM (b:BN):List PV:=eR b.at'++eR b.up
def cG (b:BN):Rat:=b.at'.val
theorem ny {p q:BN}(h1:p.at'.sz 7000000)(h2:q.at'.sz 7000000):aU 302 [.agg (cM p),.agg (cM q)] (I (sgn (cG p-cG q))):=by
 have hc:=nf p.at' q.at' (hx:=h1.v) (hy:=h2.v) Y Y;rw[show p.at'.val-q.at'.val=cG p-cG q from O]at hc;generalize sgn (cG p-cG q)=g at *
 obtain⟨pa,pu⟩:=p;obtain⟨qa,qu⟩:=q;simp only at *
 refine aD Proofs.Tryz.func302 ?_;refine ax hc ?_;exact cB
theorem P7 {K:St->Prop}{s:St}{d g:Nat}{x y z c:Operand}{tys:Array TypeId}{ty:TypeId}{pos:String}{af:Array Edge}(l:List BN)(hl:l.length<=1000)
  (hx:s.ev x=.als 5 g 0 (l.map cM).length) (hy:s.ev y=I 0) (hz:s.ev z=I l.length) (hc:s.ev c=.clo 302 [])
  (hd:∀p∈l,p.at'.sz 7000000)
  (ho:FitO s [(5,g,⟨320,8,l.map cM,1⟩)])
  (hK:∀s1:St,K (({ reg:=s.reg,own:=(s1.over [] [(5,g,⟨320,8,(b_ cG l).map cM,1⟩)]).own }:St).putR d (.tup []))) :
  Sm Tryz.prog lay.get s ⟨some d,.call ⟨.value (.func 317),#[x,y,z,c],tys⟩,ty,pos,af,none⟩ K:=by
 refine cz layOk O O Tryz.func317 O Y O O ?_;show PWP _ _ _ _ (bB s (([x,y,z,c]:List Operand).map s.ev++[]));rw[show(([x,y,z,c]:List Operand).map s.ev++([]:List PV))=[.als 5 g 0 (l.map cM).length,I 0,I l.length,.clo 302 []] by simp[hx,hy,hz,hc]];rw[show bB s [.als 5 g 0 (l.map cM).length,I 0,I l.length,.clo 302 []]=bB (s.over [] [(5,g,⟨320,8,l.map cM,1⟩)]) [.als 5 g 0 (l.map cM).length,I 0,I l.length,.clo 302 []] by rw[Fit.over (l:=[]) ho]];have hen:(l.map cM).length=l.length:=by rw[aF]
 have h1s:b_ cG (l.take 1)++l.drop 1=l:=by
  cases l with
  |nil=>rfl
  |cons x r=>rfl
 refine H ?_;refine ai (fun i=>1<=i/\(i<=l.length\/i=1)) (fun i=>[(0,.als 5 g 0 (l.map cM).length),(1,I 0),(2,I l.length),(3,.clo 302 []),(8,I i)])
  (fun i=>[(5,g,⟨320,8,(b_ cG (l.take i)++l.drop i).map cM,1⟩)]) (fun i=>l.length+1-i) 1 ⟨aY,.inr O⟩ ⟨O,O,O,O,O,by rw[h1s];rfl,bh⟩ ?_
 rintro i s1 ⟨hi1,hi⟩;refine D ?_ ?_<;>intro h
 .have hlt:i<l.length:=cw h;clear h;obtain⟨p,hp⟩:=ay hlt;have hx0:=hp;have htk:l.take (i+1)=l.take i++[p]:=bR hx0;have hdr:l.drop i=p::l.drop (i+1):=by
   obtain⟨hl1,h2⟩:=cb hx0;rw[jm hl1,h2]
  generalize hP:b_ cG (l.take i)=P at *
  have hPl:P.length=i:=by rw[<-hP,fj,bc];omega
  have hstart:P++l.drop i=cD P p i++l.drop (i+1):=by
   have hti:P.take i=P:=cT J;have hdi:P.drop i=[]:=jn J;rw[hdr,cD,hti,hdi];simp
  refine H ?_;refine ai (fun j=>j<=i/\∀q y,j<=q->P[q]?=some y->cG p<cG y) (fun j=>[(0,.als 5 g 0 (l.map cM).length),(1,I 0),(2,I l.length),(3,.clo 302 []),(8,I i),(9,I j)])
   (fun j=>[(5,g,⟨320,8,(cD P p j++l.drop (i+1)).map cM,1⟩)]) (fun j=>j) i ⟨aY,fun q y hq hy=>by rw[fe J]at hy;cases hy⟩ ⟨O,O,O,O,O,O,by rw[hstart];rfl,bh⟩ ?_
  rintro j s2 ⟨hj,hpre⟩;refine cX 17 [18,19,20,21,22,23,24,25,26,27,28,29,30,31,32,33,34] ?_;refine fi ?_ ?_<;>intro h
  .have hj0:0<j:=cw h;clear h;obtain⟨k,rfl⟩:∃k,j=k+1:=⟨j-1,J⟩;have hrow:((cD P p (k+1)++l.drop (i+1)).map cM)[k+1]?=some (cM p):=by
    rw[bw,fN (by simp[cD];omega),qO J];rfl
   obtain⟨y,hy1⟩:=ay (show k<P.length by omega);have hrow2:((cD P p (k+1)++l.drop (i+1)).map cM)[k]?=some (cM y):=by
    rw[bw,fN (by simp[cD];omega),nF J J,hy1];rfl
   have hym:y∈l:=dD ((iG cG _).mem_iff.1 (hP▸bC hy1));have hw1:IntKind.i64.wrap (((k+1:Nat):Int)-1)=(k:Nat):=by rw[wrap_i64 J J];omega
   refine H ?_;refine ci O O (cF O O O O O O O J (by rw[hen];omega)) ?_;rw[be,aM (k+1)];refine ci O O (du O O O hrow O) ?_;refine H ?_;rw[hw1];refine ci O O (cF O O O O O O O J (by rw[hen];omega)) ?_;rw[be,aM k];refine ci O O (du O O O hrow2 O) ?_;refine ax (ny (hd p (bC hp)) (hd y hym)) ?_;refine D ?_ ?_<;>intro h
   .have hlt2:cG p<cG y:=by have:=(eW _).1 (bk h);grind
    clear h;refine H ?_;refine kq [] [5] 15 [15,16,17] [2,3,4] aH aH ?_;refine H ?_;rw[hw1];refine ci O O (cF O O O O O O O J (by rw[hen];omega)) ?_;rw[be,aM k];refine ci O O (du O O O hrow2 O) ?_;refine H ?_;refine ci O O (cF O O O O O O O J (by rw[hen];omega)) ?_;rw[be,aM (k+1)];refine ci O O (du O O O hrow O) ?_;refine H ?_;refine ci O O (cF O O O O O O O J (by rw[hen];omega)) ?_;rw[be,aM (k+1)];refine H ?_;refine jQ O O O (cP (kd':=1) O O O hrow O O ah O O O O ⟨nb O,?_⟩);refine ci O O (cF O O O O O O O J (by rw[hen];omega)) ?_;rw[be,aM k];refine jQ O O O (cP (kd':=1) O O O (row:=cM y) (by
     show(((cD P p (k+1)++l.drop (i+1)).map cM).set (k+1) _)[k]? = _
     rw[et J];exact hrow2) O O ah O O O O ⟨nb O,?_⟩)
    refine H ?_;refine⟨k,⟨J,fun q z hq hz=>?_⟩,J,O,O,O,O,O,?_,?_,bh⟩
    .by_cases hqk:q=k
     .subst hqk;rw[hy1]at hz;cases hz;exact hlt2
     .exact hpre q z J hz
    .exact congrArg I hw1
    .refine Eq.trans (b:=(g,some (Cont.mk 320 8 ((((cD P p (k+1)++l.drop (i+1)).map cM).set (k+1) (cM y)).set k (cM p)) 1))) O ?_;rw[<-gY,<-gY,mf _ _ (by simp[cD];omega),mf _ _ (by simp[cD];omega),pM J hy1]
   .have hge2:cG y<=cG p:=by
     have h9:=bS h;rw[eW]at h9;grind
    clear h;have hpos:tG cG P p=k+1:=oG J hpre (.inr ⟨y,hy1,hge2⟩);have hins:b_ cG (l.take (i+1))=cD P p (k+1):=by rw[htk,jx,hP,kw,hpos]
    refine H ?_;refine⟨i+1,⟨J,.inl J⟩,J,O,O,O,O,c9 J J,?_,bh⟩;rw[hins];rfl
  .have hj0:j=0:=co h;subst hj0;clear h;have hpos:tG cG P p=0:=oG J hpre (.inl O);have hins:b_ cG (l.take (i+1))=cD P p 0:=by rw[htk,jx,hP,kw,hpos]
   refine H ?_;refine⟨i+1,⟨J,.inl J⟩,J,O,O,O,O,c9 J J,?_,bh⟩;rw[hins];rfl
 .have hge:l.length<=i:=co h;have hend:b_ cG (l.take i)++l.drop i=b_ cG l:=by
   rw[cT hge,jn hge,cu]
  rw[hend];refine H ?_;exact dR O (hK s1)
theorem EQ {K:St->Prop}{s:St}{d g:Nat}{x z c:Operand}{tys:Array TypeId}{ty:TypeId}{pos:String}{af:Array Edge}(l:List BN)(hl:l.length<=19)
  (hx:s.ev x=.als 5 g 0 (l.map cM).length) (hz:s.ev z=I l.length) (hc:s.ev c=.clo 302 [])
  (hd:∀p∈l,p.at'.sz 7000000)
  (ho:FitO s [(5,g,⟨320,8,l.map cM,1⟩)])
  (hK:∀s1:St,K (({ reg:=s.reg,own:=(s1.over [] [(5,g,⟨320,8,(b_ cG l).map cM,1⟩)]).own }:St).putR d (.tup []))) :
  Sm Tryz.prog lay.get s ⟨some d,.call ⟨.value (.func 314),#[x,z,c],tys⟩,ty,pos,af,none⟩ K:=by
 refine cz layOk O O Tryz.func314 O Y O O ?_;show PWP _ _ _ _ (bB s (([x,z,c]:List Operand).map s.ev++[]));rw[show(([x,z,c]:List Operand).map s.ev++([]:List PV))=[.als 5 g 0 (l.map cM).length,I l.length,.clo 302 []] by simp[hx,hz,hc]];rw[show bB s [.als 5 g 0 (l.map cM).length,I l.length,.clo 302 []]=bB (s.over [] [(5,g,⟨320,8,l.map cM,1⟩)]) [.als 5 g 0 (l.map cM).length,I l.length,.clo 302 []] by rw[Fit.over (l:=[]) ho]];refine H ?_;refine ai (fun _:Unit=>True) (fun _=>[(0,.als 5 g 0 (l.map cM).length),(1,I l.length),(2,.clo 302 []),(6,I 20),(7,I 0),(8,I 20)])
  (fun _=>[(5,g,⟨320,8,l.map cM,1⟩)]) (fun _=>0) () trivial ah ?_
 rintro _ s1 -
 refine D ?_ ?_<;>intro h
 .have:=bk h;omega
 clear h
 (refine cV 6 ?_;refine aR 4 ?_)
 refine H ?_;refine br O (P7 l J O O O O hd ⟨O,bh⟩ fun s2=>?_);refine aT ?_;refine H ?_;refine ai (fun _:Unit=>True) (fun _=>[(1,I l.length),(6,I 20)])
  (fun _=>[(5,g,⟨320,8,(b_ cG l).map cM,1⟩)]) (fun _=>0) () trivial ah ?_
 rintro _ s3 -
 refine D ?_ ?_<;>intro h
 .have:=bk h;omega
 clear h;refine H ?_;exact dR O (hK s3)
theorem LA {K:St->Prop}{s:St}{d g:Nat}{x c:Operand}{tys:Array TypeId}{ty:TypeId}{pos:String}{af:Array Edge}(l:List BN)(hl:l.length<=19)
  (hx:s.ev x=.als 5 g 0 (l.map cM).length) (hc:s.ev c=.clo 302 [])
  (hd:∀p∈l,p.at'.sz 7000000)
  (ho:FitO s [(5,g,⟨320,8,l.map cM,1⟩)])
  (hK:∀s1:St,K (({ reg:=s.reg,own:=(s1.over [] [(5,g,⟨320,8,(b_ cG l).map cM,1⟩)]).own }:St).putR d (.tup []))) :
  Sm Tryz.prog lay.get s ⟨some d,.call ⟨.value (.func 301),#[x,c],tys⟩,ty,pos,af,none⟩ K:=by
 refine cz layOk O O Tryz.func301 O Y O O ?_;show PWP _ _ _ _ (bB s (([x,c]:List Operand).map s.ev++[]));rw[show(([x,c]:List Operand).map s.ev++([]:List PV))=[.als 5 g 0 (l.map cM).length,.clo 302 []] by simp[hx,hc]];rw[show bB s [.als 5 g 0 (l.map cM).length,.clo 302 []]=bB (s.over [] [(5,g,⟨320,8,l.map cM,1⟩)]) [.als 5 g 0 (l.map cM).length,.clo 302 []] by rw[Fit.over (l:=[]) ho]];have hen:(l.map cM).length=l.length:=by rw[aF]
 (refine cV 0 ?_;refine aR 4 ?_)
 refine H ?_;refine br O (EQ l hl O (congrArg (fun n:Nat=>I n) hen) O hd ⟨O,bh⟩ fun s2=>?_);refine aT ?_;refine H ?_;exact dR O (hK s2)
def qy (s:SR)(t:Rat):Rat:=s.c.val+t*(s.x:Rat)
def bn (s:SR)(t:Rat)(k:Nat):BN:=⟨ofQ (s.k.s k-qy s t),ofQ (s.k.m k-cQ s.k.m k)⟩
def ol (t:Rat)(s:SR):List BN:=(List.range s.k.S.length).map (bn s t)
def o8 (l:List SR)(t:Rat):List BN:=l.flatMap (ol t)
theorem tR (t:Rat)(s:SR):(ol t s).length=s.k.S.length:=by simp[ol]
theorem Fe {s:SR}(hs:s.Lim){t:Rat}{m:Nat}(ht:HQ t m):HQ (qy s t) (13+(m+4)+1):=by
 have hx:Zb s.x:=aI hs.x.1 hs.x.2;exact @HQ.add _ _ 13 (m+4) hs.c.v.hq (@HQ.mul _ _ m 4 ht HQ.int)
theorem Fh {s:SR}(hs:s.Lim){t:Rat}{m:Nat}(ht:HQ t m)(k:Nat):HQ (s.k.s k-qy s t) (4+(13+(m+4)+1)+1):=by
 have hb:=rD hs.k k;have hzb:Zb (s.k.S.getD k 0):=aI hb.1 hb.2;exact @HQ.sub _ _ 4 _ HQ.int (Fe hs ht)
theorem Jf {l:List SR}{t:Rat}{b:BN}(h:b∈o8 l t):∃s∈l,∃k,k<s.k.S.length/\b=bn s t k:=by
 obtain⟨s,hs,hb⟩:=List.mem_flatMap.1 h;obtain⟨k,hk,rfl⟩:=aW.1 hb;exact⟨s,hs,k,fP.1 hk,O⟩
def Je (l:List SR)(t:Rat):List BN:=b_ cG (o8 l t)
theorem Ep (f:Nat->BN)(k:Nat):(List.range (k+1)).map f=(List.range k).map f++[f k]:=by rw[Aj,bj];rfl
structure SortC (l:List BN):Prop where
 run:∀ {K:St->Prop} {s:St} {d g:Nat} {x c:Operand} {tys:Array TypeId} {ty:TypeId} {pos:String} {af:Array Edge},s.ev x=.als 5 g 0 (l.map cM).length->s.ev c=.clo 302 []->(∀p∈l,p.at'.sz 7000000)->FitO s [(5,g,⟨320,8,l.map cM,1⟩)] ->
  (∀s1:St,K (({ reg:=s.reg,own:=(s1.over [] [(5,g,⟨320,8,(b_ cG l).map cM,1⟩)]).own }:St).putR d (.tup [])))->Sm Tryz.prog lay.get s ⟨some d,.call ⟨.value (.func 301),#[x,c],tys⟩,ty,pos,af,none⟩ K
theorem NU (l:List BN)(hl:l.length<=19):SortC l:=⟨fun hx hc hd ho hK=>LA l hl hx hc hd ho hK⟩
theorem Bn (l:List SR)(hl:l8 l)(hck:ej l=0)(h8:∀s∈l,s.k.S.length<=8)(h12:l.length<=12)(tr:RR){t:Rat}{m:Nat}[ht:Vq tr t m](hm:m<=1000000)(h40:(o8 l t).length<=54)(hS:SortC (o8 l t)) :
  aU 259 [.sl (l.map eS),.agg (eR tr)] (.sl ((Je l t).map cM)):=by
 have hw0:=cO 0 ⟨Y,Y⟩;have hml:(l.map eS).length=l.length:=ap;have hlen:∀i,i<=l.length->((l.take i).flatMap (ol t)).length<=54:=fun i hi=>by
  have:((l.take i).flatMap (ol t)).length<=(o8 l t).length:=by
   conv=>rhs;rw[o8,<-ef i l,ue,bQ]
   omega
  omega
 refine aD Proofs.Tryz.func259 ?_;refine H ?_;refine ao (Ghost.nilreg (k:=5) (t:=5) 320 8 1 O O) ?_;refine ai (fun i:Nat=>i<=l.length) (fun i=>[(3,.ptr 3 1 0 0),(5,.als 5 (((l.take i).flatMap (ol t)).length+1) 0 (((l.take i).flatMap (ol t)).map cM).length),(12,.sl (l.map eS)),(13,I l.length),(14,I (i:Nat))])
  (fun i=>[(3,1,⟨41,4,[eR tr],2⟩),(5,((l.take i).flatMap (ol t)).length+1,⟨320,8,((l.take i).flatMap (ol t)).map cM,1⟩)]) (fun i=>l.length-i) 0 (aP _) ⟨O,O,O,by rw[<-hml];rfl,ah⟩ ?_
 intro i s hi;refine D ?_ ?_<;>intro h
 .have hlt:i<l.length:=cw h;clear h;obtain⟨x,hx⟩:=ay hlt;have hxm:=bC hx;have hxl:=hl.1 x hxm;have hkc:=fk hck x hxm;obtain⟨h40,hSM,-,-⟩:=ic hkc;have hk8:=h8 x hxm;have hfl:(l.take (i+1)).flatMap (ol t)=(l.take i).flatMap (ol t)++ol t x:=by rw[bR hx,ue];simp
  have hA:=hlen i hi;have hA1:=hlen (i+1) hlt;rw[hfl,bQ,tR]at hA1;generalize (l.take i).flatMap (ol t)=A at *
  have hw:=dN i;have hzx:Zb x.x:=aI hxl.x.1 hxl.x.2;have e1:=cO x.x hxl.x;have e2:=iE tr (ofQ (x.x:Rat)) J Y;have v2:Vq (ofQ (t*(x.x:Rat))) (t*(x.x:Rat)) (m+1+4):=Vq.ofQ (h:=@HQ.mul _ _ (m+1) 4 ht.hq HQ.int);have e3:=eJ x.c (ofQ (t*(x.x:Rat))) (hx:=hxl.c.v) (hy:=v2) Y J;rw[show x.c.val+t*(x.x:Rat)=qy x t from O]at e3;have vb:Vq (ofQ (qy x t)) (qy x t) (13+(m+1+4)+1):=Vq.ofQ (h:=Fe hxl ht.hq);have hMl:(x.k.M.map eR).length=x.k.S.length:=by simp[hSM]
  refine aN hx ?_;refine cV 5 ?_;refine ao (e_ 8) ?_;refine a_ [(8,8),(9,8)] aH aH ?_;refine G e1 ?_;refine G e2 ?_;refine G e3 ?_;refine G hw0 ?_;refine H ?_;refine aQ [(3,.ptr 3 1 0 0),(5,.als 5 (A.length+1) 0 (A.map cM).length),(7,.ptr 7 ((s.own 7).1+1) 0 0),(8,.ptr 8 ((s.own 8).1+2+1) 0 0),(9,.ptr 9 ((s.own 9).1+1) 0 0),(12,.sl (l.map eS)),(13,I l.length),(14,I (i:Nat)),(29,.sl (x.k.M.map eR)),(30,I (x.k.M.map eR).length),(31,I ((0:Nat):Int))]
   [(3,1,⟨41,4,[eR tr],2⟩),(5,A.length+1,⟨320,8,A.map cM,1⟩),(7,(s.own 7).1+1,⟨196,7,[eS x],2⟩),(8,(s.own 8).1+2+1,⟨41,4,[eR (ofQ (qy x t))],2⟩),(9,(s.own 9).1+1,⟨41,4,[eR (MC x.k 0)],2⟩)]
   ah ?_
  generalize (s.own 7).1+1=g7;generalize (s.own 8).1+2+1=g8;generalize (s.own 9).1+1=g9;rw[hMl];intro s1;refine ai (fun k:Nat=>k<=x.k.S.length) (fun k=>[(3,.ptr 3 1 0 0),(5,.als 5 (A.length+k+1) 0 ((A++(List.range k).map (bn x t)).map cM).length),(7,.ptr 7 g7 0 0),(8,.ptr 8 g8 0 0),(9,.ptr 9 g9 0 0),(12,.sl (l.map eS)),(13,I l.length),(14,I (i:Nat)),(29,.sl (x.k.M.map eR)),(30,I x.k.S.length),(31,I (k:Nat))])
   (fun k=>[(3,1,⟨41,4,[eR tr],2⟩),(5,A.length+k+1,⟨320,8,(A++(List.range k).map (bn x t)).map cM,1⟩),(7,g7,⟨196,7,[eS x],2⟩),(8,g8,⟨41,4,[eR (ofQ (qy x t))],2⟩),(9,g9,⟨41,4,[eR (MC x.k k)],2⟩)]) (fun k=>x.k.S.length-k) 0 (aP _)
   ⟨O,by rw[List.range_zero,dp,cu];rfl,O,O,O,O,O,O,O,O,O,O,by rw[List.range_zero,dp,cu];rfl,ah⟩ ?_
  intro k s2 hk;refine D ?_ ?_<;>intro h
  .have hlk:k<x.k.S.length:=cw h;clear h;have hsx:=bF (d:=0) hlk;have hmx:=bF (l:=x.k.M) (i:=k) (d:=RR.zero) J;have hxb:=rD hxl.k k;have hzb:Zb (x.k.S.getD k 0):=aI hxb.1 hxb.2;have f1:=cO (x.k.S.getD k 0) hxb;rw[show((x.k.S.getD k 0:Int):Rat)=x.k.s k from O]at f1;have vs:Vq (ofQ (x.k.s k)) (x.k.s k) 4:=Vq.ofQ (h:=HQ.int);have f2:=nk (ofQ (x.k.s k)) (ofQ (qy x t)) (hx:=vs) (hy:=vb) Y J;have f3:=nk (x.k.M.getD k RR.zero) (MC x.k k) (hx:=B6 x.k hxl.k k) (hy:=xU x.k hxl.k k) Y Y;have hwk:=dN k;have hrow:(A++(List.range (k+1)).map (bn x t)).map cM=(A++(List.range k).map (bn x t)).map cM++[eR (ofQ (x.k.s k-qy x t))++eR (ofQ (x.k.m k-cQ x.k.m k))]:=by rw[Ep,<-bg,bj];rfl
   have hal:(A++(List.range k).map (bn x t)).length<=54:=by simp;omega
   generalize A++(List.range k).map (bn x t)=Ak,ofQ (x.k.s k-qy x t)=N1,ofQ (x.k.m k-cQ x.k.m k)=N2,ofQ (x.k.s k)=N3 at *
   refine aN hmx ?_;refine H ?_;refine bL [50,5] [14,15,16] aH ?_;refine aN hsx ?_;refine G f1 ?_;refine G f2 ?_;refine G f3 ?_;refine H ?_;refine jQ O O O (bb 1 O O O O O O O O O O O ah O ⟨fU O,?_⟩);refine H ?_;refine jQ O O O (bO 1 O O O O O O O O O O O ah (by intro row hr;first|(simp at hr;subst hr;rfl)|(simp at hr;obtain⟨_,_,rfl⟩:=hr;rfl)|simp at hr) O O aS aS ⟨fU O,?_⟩);refine H ?_;refine⟨k+1,hlk,J,O,?_,O,O,O,O,O,O,O,O,congrArg I hwk,O,?_,ah⟩
   .rw[hrow];rfl
   .rw[hrow];rfl
  .have hke:k=x.k.S.length:=co h;clear h;subst hke;rw[show(List.range x.k.S.length).map (bn x t)=ol t x from O];have hgl:A.length+x.k.S.length=((l.take (i+1)).flatMap (ol t)).length:=by rw[hfl,bQ,tR]
   rw[<-hfl,hgl];refine H ?_;exact⟨i+1,hlt,J,O,O,O,O,congrArg I hw,ah⟩
 .have hie:i=l.length:=co h;clear h;subst hie;rw[bI];rw[show l.flatMap (ol t)=o8 l t from O];have hsz:∀p∈o8 l t,p.at'.sz 7000000:=fun p hp=>by
   obtain⟨s,hs,k,hk,rfl⟩:=Jf hp;have:=gS (Fh (hl.1 s hs) ht.hq k).ok;exact⟨by have:=this.1;show(ofQ (s.k.s k-qy s t)).n.l.length<=7000000;omega,by have:=this.2;show(ofQ (s.k.s k-qy s t)).d.l.length<=7000000;omega⟩
  (refine cV 14 ?_;refine aR 1 ?_)
  refine iQ O ?_;refine bJ ?_;refine br O (hS.run O O hsz ⟨O,bh⟩ fun s1=>?_);rw[show b_ cG (o8 l t)=Je l t from O];have hol:(Je l t).length=(o8 l t).length:=fj _ _;have hol2:((o8 l t).map cM).length=((Je l t).map cM).length:=by simp[hol]
  rw[hol2];refine aT ?_;refine H ?_;exact lC O O O ah O
end Go.Pv
