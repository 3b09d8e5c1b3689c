/- Texts of one hand, gathered: FsA, FsB, FsC, FsD, PvXw, FsE. -/
import Derived.Test.YtcnpaheefnefoaaGreatBa4
set_option maxRecDepth 20000
set_option linter.unusedSectionVars false
set_option linter.unusedSimpArgs false
set_option linter.unusedVariables false
set_option linter.unnecessarySimpa false
set_option maxHeartbeats 2000000
namespace Go.Pv
attribute [local irreducible] PWP POps PQuiet PSem aG au am ao
open Go.Proofs
set_option maxRecDepth 20000 in
theorem vY (n:Nat)(hn:n<18446744073709551616):Ret Tryz.prog .shared 144 [.int .u64 (n:Nat)] (.sl ((aD n).map eU)):=by
 refine Ret.of_pwp layOk mixed Go.Proofs.Tryz.func144 O Y O O ?_
 ((repeat (first|refine aW ?_ | refine cw ?_ | refine bZ ?_ | refine bY ?_));refine bk ?_)
 refine iD O trivial ?_
 ((repeat (first|refine aW ?_ | refine cw ?_ | refine bZ ?_ | refine bY ?_));refine bk ?_)
 (first|refine aB (gw 177 1 0 O O ?_)|refine aB (gv 177 1 0 O O ?_))
 refine H ?_;refine ar (fun q:Nat × List UInt16=>(aD n=q.2++aD q.1/\q.1<18446744073709551616)/\q.1*65536^q.2.length<=n) (fun q=>[(0,.int .u64 (q.1:Nat)),(3,.als 3 (1+q.2.length) 0 (q.2.map eU).length)]) (fun q=>[(3,1+q.2.length,⟨177,1,q.2.map eU,0⟩)]) (fun q=>q.1) (n,[]) ⟨⟨O,hn⟩,ak⟩ ⟨O,O,O,trivial⟩ ?_;rintro⟨m,L⟩ s ⟨⟨hL,hmn⟩,hb⟩;simp only at hL hb hmn;dsimp only;refine D ?_ ?_<;>intro h
 .have hm:0<m:=by have:=ay h;omega
  clear h;have hLl:L.length<4:=by
   rcases Nat.lt_or_ge L.length 4 with h|h
   .exact h
   .exfalso;have h1:65536^4<=65536^L.length:=Nat.pow_le_pow_right Y h;have h2:=Nat.mul_le_mul (show 1<=m by omega) h1;have:1*65536^4=18446744073709551616:=Y;omega
  have hL2:=oX hL hm;have hb2:m/65536*65536^(L++[UInt16.ofNat m]).length<=n:=by
   rw[List.length_append,List.length_singleton,Nat.pow_succ,Nat.mul_comm (65536^_),<-Nat.mul_assoc];exact Nat.le_trans (Nat.mul_le_mul_right _ (Nat.div_mul_le_self _ _)) hb
  have ha:=FZ m hmn;have hcv:IntKind.u16.wrap ((m-m/65536*65536:Nat):Int)=((UInt16.ofNat m).toNat:Int):=by rw[wrap_u16,bh,bh];omega
  refine H ?_;rw[ha,hcv];refine bU O O (dN O O O O O O O O O O aK O) ?_;refine aB (bE 0 O O O O O O O O O O O aK (by intro row hr;first|(simp at hr;subst hr;rfl)|simp at hr) O O aT aT ?_);refine H ?_;refine⟨(m/65536,L++[UInt16.ofNat m]),⟨⟨hL2,by simp only;omega⟩,hb2⟩,by simp only;omega,?_,?_,?_,trivial⟩
  .show PV.int .u64 ((m:Int)/2^(16:Int).toNat)=PV.int .u64 ((m/65536:Nat):Int);rw[show((2:Int)^(16:Int).toNat)=65536 by decide];congr 1
  .exact nG eU 3 1 L (UInt16.ofNat m)
  .exact k6 eU 1 177 1 0 L (UInt16.ofNat m)
 .have hm:m=0:=by have:=aH h;omega
  subst hm;clear h;rw[bN,List.append_nil]at hL;rw[hL];refine H ?_;exact ia O O O ⟨O,O,O⟩ O
set_option maxRecDepth 20000 in
theorem mg (z:Int)(hz:i64 z):Ret Tryz.prog .shared 79 [I z] (.agg (eI (b9 z))):=by
 obtain⟨h0,h1⟩:=hz;have hn:=vY z.natAbs J;by_cases hz:z<0
 .rw[b9,decide_eq_true hz];have w1:IntKind.i64.wrap (z+1)=z+1:=wrap_i64 J J;have w2:IntKind.i64.wrap (0-(z+1))=0-(z+1):=wrap_i64 J J;have w3:IntKind.u64.wrap (0-(z+1))=0-(z+1):=wrap_u64 J J;have w4:IntKind.u64.wrap (0-(z+1)+1)=((z.natAbs:Nat):Int):=by rw[wrap_u64 J J];omega
  generalize aD z.natAbs=A at *
  generalize ((z.natAbs:Nat):Int)=na at *
  refine Ret.of_pwp layOk mixed Go.Proofs.Tryz.func79 O Y O O ?_;refine D ?_ ?_<;>intro h
  .clear h;refine H ?_;rw[w1];refine H ?_;rw[w2];refine H ?_;rw[w3];refine H ?_;rw[w4];refine G hn ?_;exact bM
  .exact absurd hz (aH h)
 .rw[b9,decide_eq_false hz];have w:IntKind.u64.wrap z=((z.natAbs:Nat):Int):=by rw[wrap_u64 J J];omega
  generalize aD z.natAbs=A at *
  refine Ret.of_pwp layOk mixed Go.Proofs.Tryz.func79 O Y O O ?_;refine D ?_ ?_<;>intro h
  .exact absurd (ay h) hz
  .clear h;refine H ?_;rw[w];refine mJ O O O hn O O ?_;exact bM
theorem bC (z:Int)(hz:i64 z):Ret Tryz.prog .shared 27 [I z] (.agg (eR (ofQ (z:Rat)))):=by
 have h1:=mg z hz;have h2:=mg 1 ⟨Y,Y⟩;rw[ux];generalize b9 z=X at *
 generalize b9 1=Y0 at *
 refine Ret.of_pwp layOk mixed Go.Proofs.Tryz.func27 O Y O O ?_;refine G h1 ?_;refine G h2 ?_;exact bM
set_option maxRecDepth 20000 in
theorem rb (a:RI)(ha:a.l.length<=1000000000):Ret Tryz.prog .shared 95 [.agg (eI a),.agg (eI a)] (.bool true):=by
 obtain⟨n,l⟩:=a;simp only at ha;have hml:(l.map eU).length=l.length:=ak;have hnn:(n != n)=false:=by cases n<;>rfl
 have main:∀nn:Bool,nn=n->Ret Tryz.prog .shared 95 [.agg [.bool nn,.sl (l.map eU)],.agg [.bool nn,.sl (l.map eU)]] (.bool true):=by
  intro nn _;cases nn <;>
  .refine Ret.of_pwp layOk mixed Go.Proofs.Tryz.func95 O Y O O ?_;refine D ?_ ?_<;>intro h
   .simp at h
   clear h;refine H ?_;refine ar (fun k=>k<=l.length) (fun k=>[(2,.ptr 2 1 0 0),(3,.ptr 3 1 0 0),(5,I (k:Nat))]) (fun _=>[(2,1,⟨24,2,[eI ⟨_,l⟩],2⟩),(3,1,⟨24,2,[eI ⟨_,l⟩],2⟩)]) (fun k=>l.length-k) 0 (Nat.zero_le _) ⟨O,O,O,O,O,trivial⟩ ?_;intro k s hk;refine D ?_ ?_<;>intro h
   .have hlt:k<l.length:=by have:=ay h;simp only[List.length_map]at this;omega
    clear h;obtain⟨x,hx⟩:=aO hlt;have hw:=ej k;refine bQ 11 [27,28,29,30,31,32,33,34,35,36,37] ?_;refine aJ hx ?_;refine aJ hx ?_;refine D ?_ ?_<;>intro h
    .simp at h
    clear h;refine H ?_;exact⟨k+1,hlt,J,O,O,congrArg I hw,O,O,trivial⟩
   .exact fW
 exact main n O
def RR.le (x:RR)(n:Nat):Prop:=x.n.l.length<=n/\x.d.l.length<=n
theorem fZ (x:RR)(hx:x.le 1000000000):Ret Tryz.prog .shared 41 [.agg (eR x),.agg (eR x)] (.bool true):=by
 have h1:=rb x.n hx.1;have h2:=rb x.d hx.2;obtain⟨xn,xd⟩:=x;refine Ret.of_pwp layOk mixed Go.Proofs.Tryz.func41 O Y O O ?_;refine ax h1 ?_;refine ax h2 ?_;exact fW
theorem pp {p:Rat}{n:Nat}(h:HQ p n)(hn:n<=100000000):Ret Tryz.prog .shared 41 [.agg (eR (ofQ p)),.agg (eR (ofQ p))] (.bool true):=by
 have:=dJ h.ok;exact fZ _ ⟨J,J⟩
theorem po (l:List RR)(hl:l.length<=1000000)(hs:∀x∈l,x.le 1000000000):Ret Tryz.prog .shared 16 [.sl (l.map eR),.sl (l.map eR)] (.bool true):=by
 have hml:(l.map eR).length=l.length:=ak;refine Ret.of_pwp layOk mixed Go.Proofs.Tryz.func16 O Y O O ?_;refine D ?_ ?_<;>intro h
 .simp at h
 clear h;refine H ?_;refine ar (fun k=>k<=l.length) (fun k=>[(0,.sl (l.map eR)),(1,.sl (l.map eR)),(5,I (k:Nat))]) (fun _=>[]) (fun k=>l.length-k) 0 (Nat.zero_le _) ⟨O,O,O,trivial⟩ ?_;intro k s hk;refine D ?_ ?_<;>intro h
 .have hlt:k<l.length:=by have:=ay h;omega
  clear h;obtain⟨x,hx⟩:=aO hlt;have hxr:=fZ x (hs x (a_ hx));have hw:=ej k;refine bQ 10 [17,18,19,20,21,22,23,24,25,26] ?_;refine aJ hx ?_;refine aJ hx ?_;refine ax hxr ?_;refine H ?_;exact⟨k+1,hlt,J,O,O,congrArg I hw,trivial⟩
 .exact fW
theorem AM (a:AR)(hz:a.z.le 1000000000)(ht:a.t.le 1000000000):Ret Tryz.prog .shared 25 [.agg (eA a),.agg (eA a)] (.bool true):=by
 have h1:=fZ a.z hz;have h2:=fZ a.t ht;obtain⟨z,t⟩:=a;refine Ret.of_pwp layOk mixed Go.Proofs.Tryz.func25 O Y O O ?_;refine ax h1 ?_;refine ax h2 ?_;exact fW
theorem uX (a:AR)(hz:a.z.le 1000000000)(ht:a.t.le 1000000000):Ret Tryz.prog .shared 13 [.agg (eA a),.agg (eA a)] (.bool true):=by
 have h1:=fZ a.z hz;have h2:=fZ a.t ht;obtain⟨z,t⟩:=a;refine Ret.of_pwp layOk mixed Go.Proofs.Tryz.func13 O Y O O ?_;refine ax h1 ?_;refine ax h2 ?_;exact fW
theorem Cr (l:List Int)(hl:l.length<=1000000):Ret Tryz.prog .shared 94 [.sl (l.map eN),.sl (l.map eN)] (.bool true):=by
 have hml:(l.map eN).length=l.length:=ak;refine Ret.of_pwp layOk mixed Go.Proofs.Tryz.func94 O Y O O ?_;refine D ?_ ?_<;>intro h
 .simp at h
 clear h;refine H ?_;refine ar (fun k=>k<=l.length) (fun k=>[(0,.sl (l.map eN)),(1,.sl (l.map eN)),(5,I (k:Nat))]) (fun _=>[]) (fun k=>l.length-k) 0 (Nat.zero_le _) ⟨O,O,O,trivial⟩ ?_;intro k s hk;refine D ?_ ?_<;>intro h
 .have hlt:k<l.length:=by have:=ay h;omega
  clear h;obtain⟨x,hx⟩:=aO hlt;have hw:=ej k;refine bQ 9 [17,18,19,20,21,22,23,24,25] ?_;refine aJ hx ?_;refine aJ hx ?_;refine D ?_ ?_<;>intro h
  .simp at h
  clear h;refine H ?_;exact⟨k+1,hlt,J,O,O,congrArg I hw,trivial⟩
 .exact fW
def xD (x:RR)(n:Nat):Bool:=decide (x.n.l.length<=n)&&decide (x.d.l.length<=n)
theorem G7 {x:RR}{n:Nat}:xD x n=true↔x.sz n:=by rw[xD,Bool.and_eq_true,decide_eq_true_eq,decide_eq_true_eq];rfl
theorem pq (x:RR)(n:Nat)(hn:n<=1000000):Ret Tryz.prog .shared 43 [.agg (eR x),I (n:Nat)] (.bool (xD x n)):=by
 have e1:decide ((((x.n.l.map eU).length:Nat):Int)<=(n:Int))=decide (x.n.l.length<=n):=by rw[decide_eq_decide,List.length_map];omega
 have e2:decide ((((x.d.l.map eU).length:Nat):Int)<=(n:Int))=decide (x.d.l.length<=n):=by rw[decide_eq_decide,List.length_map];omega
 rw[xD,<-e1,<-e2];obtain⟨⟨xn,xl⟩,⟨yn,yl⟩⟩:=x;refine Ret.of_pwp layOk mixed Go.Proofs.Tryz.func43 O Y O O ?_;refine bP ?_ ?_<;>intro h
 .rw[h];clear h;exact fW
 .rw[h];clear h;exact fW
theorem sP (l:List RR)(n:Nat)(hn:n<=1000000)(hl:l.length<=9223372036854775807):Ret Tryz.prog .shared 87 [.sl (l.map eR),I (n:Nat)] (.bool (l.all fun x=>xD x n)):=by
 have hml:(l.map eR).length=l.length:=ak;generalize hF:(l.all fun x=>xD x n)=F;refine Ret.of_pwp layOk mixed Go.Proofs.Tryz.func87 O Y O O ?_;refine H ?_;refine ar (fun k=>k<=l.length/\((l.drop k).all fun x=>xD x n)=F) (fun k=>[(0,.sl (l.map eR)),(1,I (n:Nat)),(5,I (k:Nat))]) (fun _=>[]) (fun k=>l.length-k) 0 ⟨Nat.zero_le _,by rw[List.drop_zero];exact hF⟩ ⟨O,O,O,trivial⟩ ?_;intro k s ⟨hk,hD⟩;refine D ?_ ?_<;>intro h
 .have hlt:k<l.length:=by have:=ay h;omega
  clear h;obtain⟨x,hx⟩:=aO hlt;have hr:=pq x n hn;have hw:=ej k;have hdr:((l.drop k).all fun x=>xD x n)=(xD x n&&(l.drop (k+1)).all fun x=>xD x n):=by
   obtain⟨hl1,h2⟩:=bu hx;rw[List.drop_eq_getElem_cons hl1,h2,List.all_cons]
  rw[hdr]at hD;cases hs:xD x n with
  |true =>
   rw[hs]at hr hD;rw[Bool.true_and]at hD;refine aJ hx ?_;refine ax hr ?_;refine H ?_;exact⟨k+1,⟨hlt,hD⟩,J,O,O,congrArg I hw,trivial⟩
  |false =>
   rw[hs]at hr hD;rw[Bool.false_and]at hD;subst hD;refine aJ hx ?_;refine ax hr ?_;exact fW
 .have hie:k=l.length:=by have:=aH h;omega
  clear h;rw[hie,List.drop_length,List.all_nil]at hD;subst hD;exact fW
def Bk (st:Nat)(s:SR):Bool:=!(decide (st<s.k.S.length)||decide (st+1<s.k.M.length)||!xD s.c 3||!(s.k.M.all fun x=>xD x 3))
theorem yX {st:Nat}{s:SR}:Bk st s=true↔xF st s:=by
 rw[Bk,xF];simp only[Bool.not_eq_true',Bool.or_eq_false_iff,decide_eq_false_iff_not,Bool.not_eq_false',List.all_eq_true,G7];constructor
 .rintro⟨⟨⟨h1,h2⟩,h3⟩,h4⟩;exact⟨J,J,h3,h4⟩
 .rintro⟨h1,h2,h3,h4⟩;exact⟨⟨⟨J,J⟩,h3⟩,h4⟩
def G6 (l:List SR)(most st:Nat):Bool:=decide (l.length<=most)&&l.all (Bk st)
theorem FC {l:List SR}{most st:Nat}:G6 l most st=true↔n_ l most st:=by
 rw[G6,Bool.and_eq_true,decide_eq_true_eq,List.all_eq_true,n_];constructor
 .rintro⟨h1,h2⟩;exact⟨h1,fun s hs=>yX.1 (h2 s hs)⟩
 .rintro⟨h1,h2⟩;exact⟨h1,fun s hs=>yX.2 (h2 s hs)⟩
def Bt (l:List SR):Prop:=l.length<=9223372036854775807/\∀s∈l,s.k.S.length<=9223372036854775807/\s.k.M.length<=9223372036854775807
set_option maxRecDepth 20000 in
theorem xE (l:List SR)(hll:Bt l)(most st:Nat)(hm:most<=1000)(hst:st<=1000):Ret Tryz.prog .shared 32 [.sl (l.map eS),I (most:Nat),I (st:Nat)] (.bool (G6 l most st)):=by
 have hml:(l.map eS).length=l.length:=ak;by_cases h0:most<l.length
 .rw[G6,decide_eq_false J,Bool.false_and];refine Ret.of_pwp layOk mixed Go.Proofs.Tryz.func32 O Y O O ?_;refine D ?_ ?_<;>intro h
  .clear h;exact fW
  .have:=aH h;omega
 rw[G6,decide_eq_true J,Bool.true_and];generalize hF:(l.all (Bk st))=F;refine Ret.of_pwp layOk mixed Go.Proofs.Tryz.func32 O Y O O ?_;refine D ?_ ?_<;>intro h
 .have:=ay h;omega
 clear h;refine H ?_;refine ar (fun k=>k<=l.length/\((l.drop k).all (Bk st))=F) (fun k=>[(0,.sl (l.map eS)),(2,I (st:Nat)),(7,I (k:Nat))]) (fun _=>[]) (fun k=>l.length-k) 0 ⟨Nat.zero_le _,by rw[List.drop_zero];exact hF⟩ ⟨O,O,O,trivial⟩ ?_;intro k s ⟨hk,hD⟩;refine D ?_ ?_<;>intro h
 .have hlt:k<l.length:=by have:=ay h;omega
  clear h;obtain⟨x,hx⟩:=aO hlt;have hl2:=hll.2 x (a_ hx);have hr:=pq x.c 3 Y;have hr2:=sP x.k.M 3 Y J;have hw:=ej k;have hws:IntKind.i64.wrap (((st:Nat):Int)+1)=((st+1:Nat):Int):=by rw[wrap_i64 J J];omega
  have hdr:((l.drop k).all (Bk st))=(Bk st x&&(l.drop (k+1)).all (Bk st)):=by
   obtain⟨hl1,h2⟩:=bu hx;rw[List.drop_eq_getElem_cons hl1,h2,List.all_cons]
  rw[hdr]at hD;have hsx:Bk st x=Bk st x:=O
  conv at hsx=>rhs;rw[Bk]
  generalize Bk st x=ok at *
  generalize xD x.c 3=o1 at *
  obtain⟨o2,ho2⟩:∃o2,(x.k.M.all fun y=>xD y 3)=o2:=⟨_,O⟩;rw[ho2]at hsx hr2;clear ho2;obtain⟨xx,xc,⟨xS,xM⟩⟩:=x;simp only at *
  have lS:(xS.map eN).length=xS.length:=ak;have lM:(xM.map eR).length=xM.length:=ak;by_cases hb1:st<xS.length
  .rw[decide_eq_true hb1]at hsx;simp only[Bool.true_or,Bool.not_true]at hsx;subst hsx;rw[Bool.false_and]at hD;subst hD;refine aJ hx ?_;refine bP ?_ ?_<;>intro h
   .clear h;exact fW
   .exfalso;have:=aH h;simp only[lS]at this;omega
  rw[decide_eq_false hb1,Bool.false_or]at hsx;by_cases hb2:st+1<xM.length
  .rw[decide_eq_true hb2]at hsx;simp only[Bool.true_or,Bool.not_true]at hsx;subst hsx;rw[Bool.false_and]at hD;subst hD;refine aJ hx ?_;refine bP ?_ ?_<;>intro h
   .exfalso;have:=ay h;simp only[lS]at this;omega
   .clear h;refine H ?_;rw[hws];refine bP ?_ ?_<;>intro h
    .clear h;exact fW
    .exfalso;have:=aH h;simp only[lM]at this;omega
  rw[decide_eq_false hb2,Bool.false_or]at hsx;cases o1 with
  |false =>
   simp only[Bool.not_false,Bool.true_or,Bool.not_true]at hsx;subst hsx;rw[Bool.false_and]at hD;subst hD;refine aJ hx ?_;refine bP ?_ ?_<;>intro h
   .exfalso;have:=ay h;simp only[lS]at this;omega
   .clear h;refine H ?_;rw[hws];refine bP ?_ ?_<;>intro h
    .exfalso;have:=ay h;simp only[lM]at this;omega
    .clear h;refine aJ hx ?_;refine ax hr ?_;exact fW
  |true =>
   simp only[Bool.not_true,Bool.false_or,Bool.not_not]at hsx;subst hsx;cases ok with
   |false =>
    rw[Bool.false_and]at hD;subst hD;refine aJ hx ?_;refine bP ?_ ?_<;>intro h
    .exfalso;have:=ay h;simp only[lS]at this;omega
    .clear h;refine H ?_;rw[hws];refine bP ?_ ?_<;>intro h
     .exfalso;have:=ay h;simp only[lM]at this;omega
     .clear h;refine aJ hx ?_;refine ax hr ?_;refine ax hr2 ?_;exact fW
   |true =>
    rw[Bool.true_and]at hD;refine aJ hx ?_;refine bP ?_ ?_<;>intro h
    .exfalso;have:=ay h;simp only[lS]at this;omega
    .clear h;refine H ?_;rw[hws];refine bP ?_ ?_<;>intro h
     .exfalso;have:=ay h;simp only[lM]at this;omega
     .clear h;refine aJ hx ?_;refine ax hr ?_;refine ax hr2 ?_;refine H ?_;exact⟨k+1,⟨hlt,hD⟩,J,O,O,congrArg I hw,trivial⟩
 .have hie:k=l.length:=by have:=aH h;omega
  clear h;rw[hie,List.drop_length,List.all_nil]at hD;subst hD;exact fW
set_option maxRecDepth 20000 in
theorem xb (c:CR)(hc:c.Lim):Ret Tryz.prog .shared 104 [.agg (eC c)] (I (bJ c)):=by
 obtain⟨S,M⟩:=c;obtain⟨hs,hm,hls,hlm⟩:=hc;simp only at hs hm hls hlm;have hSl:(S.map eN).length=S.length:=ak;have hMl:(M.map eR).length=M.length:=ak;generalize hE:bJ ⟨S,M⟩=E;simp only[bJ]at hE;show Ret Tryz.prog .shared 104 [.agg [.sl (S.map eN),.sl (M.map eR)]] (I E);refine Ret.of_pwp layOk mixed Go.Proofs.Tryz.func104 O Y O O ?_;refine D ?_ ?_<;>intro h
 .have h1:=ay h;rw[if_pos J]at hE;subst hE;exact bX
 have h40:¬40<S.length:=by have h1:=aH h;omega
 rw[if_neg h40]at hE;clear h;refine D ?_ ?_<;>intro h
 .have h1:M.length≠S.length:=by simp at h;omega
  rw[if_pos h1]at hE;subst hE;exact bX
 have hSM:M.length=S.length:=by simp at h;omega
 rw[if_neg J]at hE;clear h;refine H ?_;refine ar (fun i:Nat=>i<=S.length/\cH ⟨S,M⟩ i (S.length-i)=E) (fun i=>[(3,I (i:Nat)),(1,.ptr 1 1 0 0)]) (fun _=>[(1,1,⟨69,2,[[.sl (S.map eN),.sl (M.map eR)]],2⟩)]) (fun i=>S.length-i) 0 ⟨Nat.zero_le _,hE⟩ ⟨O,O,O,trivial⟩ ?_;intro i s ⟨hi,hF⟩;refine D ?_ ?_<;>intro h
 .have hlt:i<S.length:=by have:=ay h;omega
  clear h;obtain⟨k,hk⟩:∃k,S.length-i=k+1:=⟨S.length-i-1,J⟩;rw[hk,cH]at hF;have hx:=aN (d:=0) hlt;have hmx:=aN (l:=M) (i:=i) (d:=RR.zero) J;have hse:di ⟨S,M⟩ i=di ⟨S,M⟩ i:=O
  conv at hse=>rhs;rw[di]
  simp only at hse;generalize di ⟨S,M⟩ i=se at *
  have hxb:=hs _ (a_ hx);have hmv:=(hm _ (a_ hmx)).v;have hsg:=pm (M.getD i RR.zero) (hx:=hmv) Y;have hsl:=fM (M.getD i RR.zero).val;generalize hx0:S.getD i 0=x at *
  generalize M.getD i RR.zero=m at *
  generalize sgn m.val=sg at *
  refine aJ hx ?_;refine bP ?_ ?_<;>intro h
  .have h1:=ay h;clear h;have hS2:se=2:=by rw[hse,if_pos (.inl h1)]
   rw[hS2,if_neg Y]at hF;subst hF;exact bX
  .have h1:=aH h;clear h;refine aJ hx ?_;refine bP ?_ ?_<;>intro h
   .have h2:=ay h;clear h;have hS2:se=2:=by rw[hse,if_pos (.inr (.inl h2))]
    rw[hS2,if_neg Y]at hF;subst hF;exact bX
   .have h2:=aH h;clear h;refine aJ hmx ?_;refine ax hsg ?_;refine D ?_ ?_<;>intro h
    .have h3:=ay h;clear h;have hS2:se=2:=by rw[hse,if_pos (.inr (.inr (hsl.1 h3)))]
     rw[hS2,if_neg Y]at hF;subst hF;exact bX
    .have h3:=aH h;clear h;rw[if_neg (by rw[<-hsl];omega)]at hse;refine H ?_;rcases Nat.eq_zero_or_pos i with hi0|hi0
     .subst hi0;have hS2:se=0:=by rw[hse,if_neg (fun h=>by omega)]
      rw[if_pos hS2]at hF;have hw:=ej 0;refine nQ 16 [45,46,47,48,49,50,51,52,53,54,55,56,57,58,59,60] aX ?_;refine H ?_;exact⟨0+1,⟨J,by rw[show S.length-(0+1)=k by omega];exact hF⟩,J,congrArg I hw,O,O,trivial⟩
     .obtain⟨j,rfl⟩:∃j,i=j+1:=⟨i-1,J⟩;have hw1:IntKind.i64.wrap (((j+1:Nat):Int)-1)=((j:Nat):Int):=by rw[wrap_i64 J J];omega
      have hy:=aN (l:=S) (i:=j) (d:=0) J;rw[show j+1-1=j by omega]at hse;generalize S.getD j 0=y at *
      refine nQ 16 [45,46,47,48,49,50,51,52,53,54,55,56,57,58,59,60] aX ?_;refine bP ?_ ?_<;>intro h
      .clear h;refine aJ hx ?_;refine H ?_;rw[hw1];refine td O O O O O O O hy O ?_;refine D ?_ ?_<;>intro h
       .have h5:=ay h;clear h;have hS2:se=10:=by rw[hse,if_pos ⟨J,h5⟩]
        rw[hS2,if_neg Y]at hF;subst hF;exact bX
       .have h5:=aH h;clear h;have hS2:se=0:=by rw[hse,if_neg (fun h=>h5 h.2)]
        rw[if_pos hS2]at hF;have hw:IntKind.i64.wrap (((j+1:Nat):Int)+1)=((j+1+1:Nat):Int):=by rw[wrap_i64 J J];omega
        refine H ?_;exact⟨j+1+1,⟨J,by rw[show S.length-(j+1+1)=k by omega];exact hF⟩,J,congrArg I hw,O,O,trivial⟩
      .have:=aH h;omega
 .have hie:i=S.length:=by have:=aH h;omega
  rw[hie,Nat.sub_self,cH]at hF;subst hF;exact bX
def Bb (p:Rat)(lo hi:Int):Bool:=decide ((lo:Rat)<=p)&&decide (p<=(hi:Rat))
theorem pQ (x:RR){p:Rat}{m:Nat}[hx:Vq x p m](hm:m<=1000000)(lo hi:Int)(hlo:i64 lo)(hhi:i64 hi):Ret Tryz.prog .shared 47 [.agg (eR x),I lo,I hi] (.bool (Bb p lo hi)):=by
 have w1:=bC lo hlo;have w2:=bC hi hhi;have z1:Zb lo:=aL hlo.1 hlo.2;have z2:Zb hi:=aL hhi.1 hhi.2;have c1:=dg x (ofQ (lo:Rat)) J Y;have c2:=dg x (ofQ (hi:Rat)) J Y;have e1:decide ((lo:Rat)<=p)=decide (0<=sgn (p-(lo:Rat))):=by rw[decide_eq_decide,xB];constructor<;>intro h<;>grind
 have e2:decide (p<=(hi:Rat))=decide (sgn (p-(hi:Rat))<=0):=by rw[decide_eq_decide,xC];constructor<;>intro h<;>grind
 rw[Bb,e1,e2];generalize sgn (p-(lo:Rat))=g1 at *
 generalize sgn (p-(hi:Rat))=g2 at *
 generalize ofQ (lo:Rat)=W1 at *
 generalize ofQ (hi:Rat)=W2 at *
 refine Ret.of_pwp layOk mixed Go.Proofs.Tryz.func47 O Y O O ?_;refine bQ 13 [7,8,9,10,11,12,13,14,15,16,17,18,6] ?_;refine G w1 ?_;refine ax c1 ?_;refine bP ?_ ?_<;>intro h
 .rw[h];clear h;refine G w2 ?_;refine ax c2 ?_;exact fW
 .rw[h];clear h;exact fW
theorem Eg {p:Rat}{n:Int}:Bb p (-n) n=false↔(p < -(n:Rat)\/(n:Rat)<p):=by
 rw[Bb,Bool.and_eq_false_iff,decide_eq_false_iff_not,decide_eq_false_iff_not];have e:(((-n:Int)):Rat) = -(n:Rat):=by push_cast;rfl
 rw[e];constructor
 .rintro(h|h)
  .left;grind
  .right;grind
 .rintro(h|h)
  .left;grind
  .right;grind
set_option maxRecDepth 20000 in
theorem w_ (l:List SR)(hl:fJ l):Ret Tryz.prog .shared 48 [.sl (l.map eS)] (I (bT l)):=by
 have hml:(l.map eS).length=l.length:=ak;generalize hE:bT l=E;rw[bT]at hE;obtain⟨hs,hll⟩:=hl;refine Ret.of_pwp layOk mixed Go.Proofs.Tryz.func48 O Y O O ?_;refine D ?_ ?_<;>intro h
 .have h1:=ay h;rw[if_pos J]at hE;subst hE;exact bX
 rw[if_neg (by have:=aH h;omega)]at hE;clear h;refine H ?_;refine ar (fun i:Nat=>i<=l.length/\cz fU (l.drop i)=E) (fun i=>[(0,.sl (l.map eS)),(3,I (i:Nat))]) (fun _=>[]) (fun i=>l.length-i) 0 ⟨Nat.zero_le _,by rw[List.drop_zero];exact hE⟩ ⟨O,O,trivial⟩ ?_;intro i s ⟨hi,hF⟩;refine D ?_ ?_<;>intro h
 .have hlt:i<l.length:=by have:=ay h;omega
  clear h;obtain⟨x,hx⟩:=aO hlt;rw[ng fU hx]at hF;have hxl:=hs x (a_ hx);have hw:=pQ x.c (hx:=hxl.c.v) Y (-10000000) 10000000 ⟨Y,Y⟩ ⟨Y,Y⟩;have hwn:=Eg (p:=x.c.val) (n:=10000000);have hcv:=xb x.k hxl.k;have hse:fU x=fU x:=O
  conv at hse=>rhs;rw[fU]
  have hwr:IntKind.i64.wrap (((i:Nat):Int)+1)=((i+1:Nat):Int):=by rw[wrap_i64 J J];omega
  generalize fU x=se at *
  generalize bJ x.k=ce at *
  generalize Bb x.c.val (-10000000) 10000000=wb at *
  obtain⟨xx,xc,xk⟩:=x;simp only at *
  by_cases h1:xx < -1000000
  .have h2:se=2:=by rw[hse,if_pos (.inl (.inl h1))]
   rw[h2,if_neg Y]at hF;subst hF;refine aJ hx ?_;refine bP ?_ ?_<;>intro h
   .clear h;exact bX
   .exact absurd h1 (aH h)
  by_cases h2:1000000<xx
  .have h3:se=2:=by rw[hse,if_pos (.inl (.inr h2))]
   rw[h3,if_neg Y]at hF;subst hF;refine aJ hx ?_;refine bP ?_ ?_<;>intro h
   .exact absurd (ay h) h1
   .clear h;refine aJ hx ?_;refine bP ?_ ?_<;>intro h
    .clear h;exact bX
    .exact absurd h2 (aH h)
  cases wb with
  |false =>
   have h3:se=2:=by rw[hse,if_pos (.inr (hwn.1 O))]
   rw[h3,if_neg Y]at hF;subst hF;refine aJ hx ?_;refine bP ?_ ?_<;>intro h
   .exact absurd (ay h) h1
   .clear h;refine aJ hx ?_;refine bP ?_ ?_<;>intro h
    .exact absurd (ay h) h2
    .clear h;refine aJ hx ?_;refine ax hw ?_;exact bX
  |true =>
   have h3:se=ce:=by
    rw[hse,if_neg];rintro(h|h)
    .omega
    .exact absurd (hwn.2 h) Y
   rw[h3]at hF;by_cases h0:ce=0
   .rw[if_pos h0]at hF;subst h0;refine aJ hx ?_;refine bP ?_ ?_<;>intro h
    .exact absurd (ay h) h1
    .clear h;refine aJ hx ?_;refine bP ?_ ?_<;>intro h
     .exact absurd (ay h) h2
     .clear h;refine aJ hx ?_;refine ax hw ?_;refine aJ hx ?_;refine ax hcv ?_;refine H ?_;exact⟨i+1,⟨J,hF⟩,J,O,congrArg I hwr,trivial⟩
   .rw[if_neg h0]at hF;subst hF;refine aJ hx ?_;refine bP ?_ ?_<;>intro h
    .exact absurd (ay h) h1
    .clear h;refine aJ hx ?_;refine bP ?_ ?_<;>intro h
     .exact absurd (ay h) h2
     .clear h;refine aJ hx ?_;refine ax hw ?_;refine aJ hx ?_;refine ax hcv ?_;refine D ?_ ?_<;>intro h
      .exact bX
      .exfalso;simp at h;exact h0 h
 .have hie:i=l.length:=by have:=aH h;omega
  clear h;rw[hie,List.drop_length]at hF;simp only[cz]at hF;subst hF;exact bX
theorem At (b:BR)(hb:b.Lim):Ret Tryz.prog .shared 11 [.agg (eB b)] (I (bH b)):=by
 have hw:=pQ b.a (hx:=hb.a.v) Y (-1000000) 1000000 ⟨Y,Y⟩ ⟨Y,Y⟩;have hwn:=Eg (p:=b.a.val) (n:=1000000);have hc:=w_ b.l hb.l;generalize hE:bH b=E;rw[bH]at hE;generalize Bb b.a.val (-1000000) 1000000=wb at *
 obtain⟨w,a,l⟩:=b;simp only at *
 generalize bT l=ce at *
 by_cases h1:w<1
 .rw[if_pos (.inl (.inl h1))]at hE;subst hE;refine Ret.of_pwp layOk mixed Go.Proofs.Tryz.func11 O Y O O ?_;refine bP ?_ ?_<;>intro h
  .clear h;exact bX
  .exact absurd h1 (aH h)
 by_cases h2:1000000000<w
 .rw[if_pos (.inl (.inr h2))]at hE;subst hE;refine Ret.of_pwp layOk mixed Go.Proofs.Tryz.func11 O Y O O ?_;refine bP ?_ ?_<;>intro h
  .exact absurd (ay h) h1
  .clear h;refine bP ?_ ?_<;>intro h
   .clear h;exact bX
   .exact absurd h2 (aH h)
 cases wb with
 |false =>
  rw[if_pos (.inr (hwn.1 O))]at hE;subst hE;refine Ret.of_pwp layOk mixed Go.Proofs.Tryz.func11 O Y O O ?_;refine bP ?_ ?_<;>intro h
  .exact absurd (ay h) h1
  .clear h;refine bP ?_ ?_<;>intro h
   .exact absurd (ay h) h2
   .clear h;refine ax hw ?_;exact bX
 |true =>
  rw[if_neg (by
   rintro(h|h)
   .omega
   .exact absurd (hwn.2 h) Y)]at hE
  subst hE;refine Ret.of_pwp layOk mixed Go.Proofs.Tryz.func11 O Y O O ?_;refine bP ?_ ?_<;>intro h
  .exact absurd (ay h) h1
  .clear h;refine bP ?_ ?_<;>intro h
   .exact absurd (ay h) h2
   .clear h;refine ax hw ?_;refine ax hc ?_;exact bX
open Go.Proofs Go.RowKit
theorem Ghost.takeD {s:St}{k g t n sz:Nat}{T:TypeId}{rows:List (List PV)}(ho:s.own k=(g,some ⟨T,sz,rows,1⟩))(hr:s.reg t = .als k g 0 n)(hn:n=rows.length) :
  Ghost s ((s.setOwn k (g+1) none).putR t (.sl rows)):=by
 intro C a w hX ⟨γ,h⟩;subst hn;obtain⟨h1,hle,_⟩:=h.drop hX ho;refine⟨γ,h1.defers,h1.size,fun r=>?_,h1.sites,h1.inj,h1.base,h1.below,h1.top,h1.kept⟩;show Rep _ (bif Nat.beq r t then _ else(s.setOwn k (g+1) none).reg r) _;by_cases hrt:r=t
 .subst hrt;have hp:=h.regs r;rw[hr]at hp;simp only[Nat.beq_refl,cond_true];refine .d ?_;rcases h.als_at hp ho with⟨q1,_,q3,q4⟩|⟨b,cap,cur,q1,q2,q3,q4,q5,q6,q7⟩
  .have:rows=[]:=(h.sites k _ (by rw[ho])).emp q1;rw[this,q4];exact .sl0 _ _
  .obtain⟨cur',g1,g2,g3,g4,g5⟩:=h.site_at ho q1 (h.cells_sz ho q1 q3 q6);have hb:(aq C γ (s.setOwn k (g+1) none) w).ok b:=by
    have hbase:=h.base k _ b (by rw[ho]) q1;refine⟨hbase.2,fun hx=>?_,fun k' c' hc' hb'=>?_⟩
    .have:=hX b hx;omega
    .by_cases hk':k'=k
     .subst hk';rw[ap]at hc';cases hc'
     .rw[aI hk']at hc';exact hk' (h.inj k' k c' _ b hc' (by rw[ho]) hb' q1)
   rw[q2];simp only[Nat.zero_mul];refine .sl rows b 0 cap sz (fun i j=>cur'.getD (i*sz+j) undef) hb g2 q4 g4 (fun i j row pv e1 e2=>?_) (fun i j row pv e1 e2=>?_)
   .obtain⟨u,f1,f2,_⟩:=g5 i j row pv e1 e2;have g1:w.heap[b]? = some (.cells cur' T (0,0)):=g1;show w.cell? _=_/\_;rw[bi g1,Nat.zero_add,f1];simp[f1,f2]
   .obtain⟨u,f1,_,f3⟩:=g5 i j row pv e1 e2;have hu:cur'.getD (i*sz+j) undef=u:=by simp[f1]
    simp only[hu];exact hle.drep f3
 .rw[br hrt];exact h1.regs r
def x5 (l:List Int):List RR:=l.map fun z:Int=>ofQ (z:Rat)
set_option maxRecDepth 20000 in
theorem rH (l:List Int)(hl:l.length<=1000000)(hz:∀z∈l,i64 z):Ret Tryz.prog .shared 40 [.sl (l.map eN)] (.sl ((x5 l).map eR)):=by
 have hml:(l.map eN).length=l.length:=ak;refine Ret.of_pwp layOk mixed Go.Proofs.Tryz.func40 O Y O O ?_
 ((repeat (first|refine aW ?_ | refine cw ?_ | refine bZ ?_ | refine bY ?_));refine bk ?_)
 refine iD O trivial ?_
 ((repeat (first|refine aW ?_ | refine cw ?_ | refine bZ ?_ | refine bY ?_));refine bk ?_)
 (first|refine aB (gw 26 4 1 O O ?_)|refine aB (gv 26 4 1 O O ?_))
 refine H ?_;refine ar (fun k=>k<=l.length) (fun k=>[(0,.sl (l.map eN)),(3,.als 3 (k+1) 0 ((x5 (l.take k)).map eR).length),(4,I (k:Nat))]) (fun k=>[(3,k+1,⟨26,4,(x5 (l.take k)).map eR,1⟩)]) (fun k=>l.length-k) 0 (Nat.zero_le _) ⟨O,O,O,O,trivial⟩ ?_;intro k s hk;refine D ?_ ?_<;>intro h
 .have hlt:k<l.length:=by have:=ay h;omega
  clear h;obtain⟨x,hx⟩:=aO hlt;have hxr:=bC x (hz x (a_ hx));have hw:=ej k;have hwl:(x5 (l.take k)).length=k:=by rw[x5,List.length_map,List.length_take];omega
  have hrows:(x5 (l.take (k+1))).map eR=(x5 (l.take k)).map eR++[eR (ofQ (x:Rat))]:=by rw[cM hx,x5,List.map_append,List.map_append];rfl
  refine aJ hx ?_;refine G hxr ?_;refine H ?_;refine aB (bb 1 O O O O O O O O O O O aK O ?_);refine H ?_;refine aB (bE 1 O O O O O O O O O O O aK (by intro row hr;first|(simp at hr;subst hr;rfl)|simp at hr) O O aT aT ?_);refine H ?_;refine⟨k+1,hlt,J,O,?_,congrArg I hw,?_,trivial⟩
  .rw[hrows];rfl
  .rw[hrows];rfl
 .have hge:k=l.length:=by have:=aH h;omega
  subst hge;clear h;rw[List.take_length];refine H ?_;exact ia O O O ⟨O,O,O⟩ O
theorem vj (x:Int):WeakL ([I x]++zN++[.sl [[I 0]],.sl ((x5 [2]).map eR)]) (eS (ff x)):=WeakL.append (WeakL.append (WeakL.refl _) gZ) (WeakL.refl _)
theorem CS (x:Int):WeakL ([I x]++zN++[.sl [[I 0],[I 10]],.sl ((x5 [5,0]).map eR)]) (eS (kV x)):=WeakL.append (WeakL.append (WeakL.refl _) gZ) (WeakL.refl _)
theorem r6:∀z∈[(0:Int),1,2,5,10,25,30,40,75,80,100],i64 z:=by
 intro z hz;simp at hz;rcases hz with rfl|rfl|rfl|rfl|rfl|rfl|rfl|rfl|rfl|rfl|rfl<;>exact⟨Y,Y⟩
theorem pE (x:Int):Ret Tryz.prog .shared 38 [I x] (.agg (eS (ff x))):=by
 have h1:=rH [2] ak (fun z hz=>r6 z (by simp at hz;subst hz;simp));refine Ret.weak (r' := .agg ([I x]++zN++[.sl [[I 0]],.sl ((x5 [2]).map eR)])) ?_ (WeakL.refl _) (vj x).agg;generalize (x5 [2]).map eR=W at *
 refine Ret.of_pwp layOk mixed Go.Proofs.Tryz.func38 O Y O O ?_;refine H ?_;refine aB (bb 0 O O O O O O O O O O O aK O ?_);refine H ?_;refine bU O O (dN O O O O O O O O O O aK O) ?_;refine G h1 ?_;exact bM
theorem yE (x:Int):Ret Tryz.prog .shared 39 [I x] (.agg (eS (kV x))):=by
 have h1:=rH [5,0] ak (fun z hz=>r6 z (by simp at hz;rcases hz with rfl|rfl<;>simp));refine Ret.weak (r' := .agg ([I x]++zN++[.sl [[I 0],[I 10]],.sl ((x5 [5,0]).map eR)])) ?_ (WeakL.refl _) (CS x).agg;generalize (x5 [5,0]).map eR=W at *
 refine Ret.of_pwp layOk mixed Go.Proofs.Tryz.func39 O Y O O ?_;refine H ?_;refine aB (bb 0 O O O O O O O O O O O aK O ?_);refine H ?_;refine bU O O (dN O O O O O O O O O O aK O) ?_;refine G h1 ?_;exact bM
theorem Ic:ofQ (-1/10)=⟨b9 (-1),b9 10⟩:=by
 rw[nO];have h1:(-1/10:Rat).num = -1:=by decide +kernel
 have h2:(-1/10:Rat).den=10:=by decide +kernel
 rw[h1,h2];rfl
set_option maxRecDepth 20000 in
theorem GE:Ret Tryz.prog .shared 42 [I (-1),I 10] (.agg (eR (ofQ (-1/10)))):=by
 have h1:=mg (-1) ⟨Y,Y⟩;have h2:=mg 10 ⟨Y,Y⟩;rw[Ic];generalize b9 (-1)=X at *
 generalize b9 10=Y0 at *
 refine Ret.of_pwp layOk mixed Go.Proofs.Tryz.func42 O Y O O ?_;refine H ?_;refine ar (fun q:Nat × Nat=>q.1<=10/\q.2<=10/\Nat.gcd q.1 q.2=1) (fun q=>[(0,I (-1)),(1,I 10),(4,.ptr 4 1 0 0),(5,I (q.1:Nat)),(6,I (q.2:Nat))]) (fun _=>[(4,1,⟨26,4,[zN],2⟩)]) (fun q=>q.2) (1,10) ⟨Y,Y,Y⟩ ⟨O,O,O,O,O,O,trivial⟩ ?_;rintro⟨x,y⟩ s ⟨hx,hy,hg⟩;simp only at hx hy hg;dsimp only;refine D ?_ ?_<;>intro h
 .have hy0:0<y:=by have:=ay h;omega
  clear h;have hm:=Nat.mod_lt x hy0;refine H ?_;refine bI [] [] aX ?_;refine H ?_;refine bU O O (QOp.v O (show ¬((y:Nat):Int)=0 by omega)) ?_;rw[jE];refine H ?_;exact⟨(y,x%y),⟨hy,by simp only;omega,by simp only;rw[Nat.gcd_comm,<-Nat.gcd_rec,Nat.gcd_comm];exact hg⟩,hm,O,O,O,O,O,O,trivial⟩
 .have hy0:y=0:=by have:=aH h;omega
  subst hy0;clear h;rw[Nat.gcd_zero_right]at hg;subst hg;refine bQ 9 [25,26,27,28,29,30,31,32,33] ?_;refine H ?_;have q1:IntKind.i64.wrap (Int.tdiv (-1) ((1:Nat):Int)) = -1:=Y;have q2:IntKind.i64.wrap (Int.tdiv 10 ((1:Nat):Int))=10:=Y;refine bU O O (QOp.v O (show ¬((1:Nat):Int)=0 by decide)) ?_;rw[q1];refine G h1 ?_;refine H ?_;refine bU O O (QOp.v O (show ¬((1:Nat):Int)=0 by decide)) ?_;rw[q2];refine G h2 ?_;exact bM
theorem rG (z t:Rat):(bd b1).F z t=(0+if z+t*0<0 then 0 else 2*(z+t*0))+if z+t*100<0 then 0 else 2*(z+t*100):=by
 have e:(bd b1).F z t=(0+fQ (ff 0) z t)+fQ (ff 100) z t:=O;rw[e,vi,vi,show((0:Int):Rat)=0 from O,show((100:Int):Rat)=100 from O]
theorem Gz (z t:Rat):(bd b1).G0 z t=(if z+t*100<0 then 0 else 2*(z+t*100))*100:=by
 have e:(bd b1).G0 z t=(0+fQ (ff 0) z t*((0:Int):Rat))+fQ (ff 100) z t*((100:Int):Rat):=O;rw[e,vi,vi,show((0:Int):Rat)=0 from O,show((100:Int):Rat)=100 from O];grind
theorem BA:(bd b1).w=40:=rfl
theorem Gx:(bd b1).A=25:=by
 show(ofQ ((25:Int):Rat)).val=25;rw[ofQ_val];rfl
theorem Gy {z t:Rat}(h:(bd b1).Least z t):(bd b1).E t=(if z+t*100<0 then 0 else 2*(z+t*100))*100-40*25:=by
 rw[Bd.E,Bd.sg_eq h,Bd.e,Gz,BA,Gx]
theorem od {z t:Rat}(h1:(bd b1).F z t=40)(h2:∀z',z'<z->(bd b1).F z' t<40):(bd b1).Least z t:=⟨h1,h2⟩
theorem F2:(bd b1).Least 10 0:=od (by rw[rG];grind) (fun z' h=>by rw[rG];grind)
theorem HF:(bd b1).Least 20 (-1):=od (by rw[rG];grind) (fun z' h=>by rw[rG];grind)
theorem HG:(bd b1).Least (-80) 1:=od (by rw[rG];grind) (fun z' h=>by rw[rG];grind)
theorem og {x:Int}{z t:Rat}(h:0<=z+t*(x:Rat)):jh (ff x).k.s (yQ (ff x) z t) 1=1:=by
 rw[jh,if_pos];show((0:Int):Rat)<=RR.zero.val+(z+t*(x:Rat));rw[RR.zero_val,show((0:Int):Rat)=0 from O];grind
theorem zr {x:Int}{z t:Rat}(h:0<z+t*(x:Rat)):l_ (ff x).k.s (yQ (ff x) z t) 1=1:=by
 rw[l_,if_pos];show((0:Int):Rat)<RR.zero.val+(z+t*(x:Rat));rw[RR.zero_val,show((0:Int):Rat)=0 from O];grind
theorem y4 (x:Int):aZ (ff x).k.m 1=2:=by
 rw[aZ];show(ofQ ((2:Int):Rat)).val=2;rw[ofQ_val];rfl
theorem zp {i:Nat}(hi:i<2):(bd b1).k ((bd b1).pR 10 0) i=2:=by
 rcases i with _ | _ | i
 .show aZ (ff 0).k.m (jh (ff 0).k.s (yQ (ff 0) 10 0) 1)=2;rw[og aP,y4]
 .show aZ (ff 100).k.m (jh (ff 100).k.s (yQ (ff 100) 10 0) 1)=2;rw[og aP,y4]
 .omega
theorem By:(bd b1).guess 10 0=some (15,-1/10):=by
 have kh:(bd b1).Kh ((bd b1).pR 10 0)=4:=by
  show 0+(bd b1).k ((bd b1).pR 10 0) 0+(bd b1).k ((bd b1).pR 10 0) 1=4;rw[zp Y,zp Y];grind
 have kc:(bd b1).Kc ((bd b1).pR 10 0)=200:=by
  show 0+(bd b1).k ((bd b1).pR 10 0) 0*((0:Int):Rat)+(bd b1).k ((bd b1).pR 10 0) 1*((100:Int):Rat)=200;rw[zp Y,zp Y,show((0:Int):Rat)=0 from O,show((100:Int):Rat)=100 from O];grind
 have kp:(bd b1).Kp ((bd b1).pR 10 0)=20000:=by
  show 0+(bd b1).k ((bd b1).pR 10 0) 0*((0:Int):Rat)*((0:Int):Rat)+(bd b1).k ((bd b1).pR 10 0) 1*((100:Int):Rat)*((100:Int):Rat)=20000;rw[zp Y,zp Y,show((0:Int):Rat)=0 from O,show((100:Int):Rat)=100 from O];grind
 have hF:(bd b1).w-(bd b1).F 10 0=0:=by rw[BA,rG];grind
 have hE : -((bd b1).e 10 0) = -1000:=by rw[Bd.e,Gz,BA,Gx];grind
 have hn:Bd.newt 4 200 20000 0 (-1000)=some (5,-1/10):=by
  rw[Bd.newt,if_neg aX];congr 2<;>decide +kernel
 have hb:(bd b1).F (10+5) (0 + -1/10)=(bd b1).w/\(bd b1).G0 (10+5) (0 + -1/10)=(bd b1).w*(bd b1).A:=by
  rw[rG,Gz,BA,Gx];constructor<;>grind
 rw[Bd.guess,Bd.tryP,kh,kc,kp,hF,hE,hn];dsimp only;rw[if_pos hb];simp only[Option.some.injEq,Prod.mk.injEq];constructor<;>grind
theorem HD:(bd b1).eqQ 1=some (15,-1/10):=by
 have em:(bd b1).E (-1) = -1000:=by rw[Gy HF];grind
 have ep:(bd b1).E 1=3000:=by rw[Gy HG];grind
 have e0:(bd b1).E 0=1000:=by rw[Gy F2];grind
 have d1:(bd b1).dbl (-1) 1 1=some 1:=by
  rw[Bd.dbl,if_neg];rw[show(-1:Rat)*1 = -1 by grind,em];grind
 have d2:(bd b1).dbl 1 1 1=some 1:=by
  rw[Bd.dbl,if_neg];rw[show(1:Rat)*1=1 by grind,ep];grind
 have a0:(bd b1).at1 0=some (15,-1/10):=by
  rw[Bd.at1,if_neg (by rw[e0];grind),Bd.sg_eq F2,By]
 rw[Bd.eqQ,d1,d2];dsimp only;rw[Bd.fst3,a0]
theorem HE (t:Rat):∃z,(bd b1).w<=(bd b1).F z t:=⟨20,by rw[rG,BA];grind⟩
theorem m_ (t:Rat):(kX b1.l t).length<=19:=by
 rw[kX];show((nD t (ff 0))++((nD t (ff 100))++[])).length<=19;rw[nD,nD];simp[ff]
theorem zt:bt b1.l=[0,100]:=by
 rw[bt];have:dc (b1.l.map (·.x))=[0,100]:=List.mergeSort_of_pairwise Y;rw[this];decide
theorem Bz {x:Int}{A B:Rat}(hx:x=0\/x=100)(h:A+B*(x:Rat)≠0):o5 15 (-1/10) A B (ff x)=false:=by
 have hy:0<(15:Rat) + -1/10*(x:Rat):=by
  rcases hx with rfl|rfl
  .rw[show((0:Int):Rat)=0 from O];grind
  .rw[show((100:Int):Rat)=100 from O];grind
 have hr:rV (ff x) 15 (-1/10)=2:=by
  show aZ (ff x).k.m (jh (ff x).k.s (yQ (ff x) 15 (-1/10)) 1)=2;rw[og aP,y4]
 have hl:lV (ff x) 15 (-1/10)=2:=by
  show aZ (ff x).k.m (l_ (ff x).k.s (yQ (ff x) 15 (-1/10)) 1)=2;rw[zr hy,y4]
 rw[o5,decide_eq_false];intro hn;apply hn;rw[hr,hl];rcases Classical.em (0<A+B*(x:Rat)) with g|g
 .exact .inl ⟨g,aP⟩
 .exact .inr ⟨by show A+B*(x:Rat)<0;grind,aP⟩
theorem Ep {A B:Rat}(h:A≠0\/A+B*100≠0):eX b1.l 15 (-1/10) A B=false:=by
 show(o5 15 (-1/10) A B (ff 0)&&(o5 15 (-1/10) A B (ff 100)&&true))=false;rcases h with h|h
 .rw[Bz (.inl O) (by rw[show((0:Int):Rat)=0 from O];grind),Bool.false_and]
 .rw[Bz (x:=100) (.inr O) (by rw[show((100:Int):Rat)=100 from O];exact h),Bool.false_and,Bool.and_false]
theorem zu:cZ b1 15 (-1/10)=false:=by
 rw[cZ,List.any_eq_false];intro d hd;have key:∀A B:Int,(A≠0\/A+B*100≠0)->¬eX b1.l 15 (-1/10) (ofQ (A:Rat)).val (ofQ (B:Rat)).val=true:=by
  intro A B h;rw[ofQ_val,ofQ_val,Ep]
  .decide
  .rcases h with h|h
   .left;exact_mod_cast h
   .right;have:(A:Rat)+(B:Rat)*100=((A+B*100:Int):Rat):=by push_cast;rfl
    rw[this];exact_mod_cast h
 rw[fj,cf,zt]at hd;simp at hd;rcases hd with rfl|rfl|rfl|rfl|rfl|rfl
 .exact key (-0) 1 Y
 .exact key (-100) 1 Y
 .exact key 0 (-1) Y
 .exact key 100 (-1) Y
 .exact key 1 0 Y
 .exact key (-1) 0 Y
theorem GB:Ret Tryz.prog .shared 9 [.agg (eB b1)] (.tup [.agg (wy ⟨ofQ 15,ofQ (-1/10)⟩ [ofQ 30,ofQ 10]),.agg (zN++zN),I 0]):=by
 have hn:=zz oe (GA.2 ⟨O,O⟩);have h93:=jy b1 oe;rw[du,if_neg (by rw[hn.1];decide),List.find?_eq_none.2 (fun r hr=>by rw[hn.2 r hr];decide)]at h93;have h120:=qs b1 oe (fun t=>Nat.le_trans (m_ t) Y) (fun t=>y3 _ (m_ t)) HE (N:=1) Y HD;have va:Va ⟨ofQ 15,ofQ (-1/10)⟩ 15 (-1/10) 4 8:=⟨Vq.ofQ (h:=⟨tR 15 ⟨Y,Y⟩⟩),Vq.ofQ (h:=@HQ.div _ _ 4 4 (@HQ.neg _ _ HQ.one) ⟨tR 10 ⟨Y,Y⟩⟩)⟩;have h121:=qD b1 oe ⟨ofQ 15,ofQ (-1/10)⟩ (ha:=va) Y;rw[zu]at h121;have h23:=ky b1.l oe.lim.l oe.chkL ⟨ofQ 15,ofQ (-1/10)⟩ (ha:=va) Y;rw[zo]at h23;exact ri b1 oe.lim Bx h93 _ _ h120 h121 h23
theorem GD:Ret Tryz.prog .shared 9 [.agg (eB b2)] (.tup [.agg zS,.agg (eA (jG 0)),I 13]):=by
 have h93:=jy b2 F3;rw[vW]at h93;exact kR b2 F3.lim BB _ 13 Y h93
set_option maxRecDepth 20000 in
theorem zm:Ret Tryz.prog .shared 7 [] (.bool true):=by
 have w25:=bC 25 ⟨Y,Y⟩;have w75:=bC 75 ⟨Y,Y⟩;have w0:=bC 0 ⟨Y,Y⟩;have w1:=bC 1 ⟨Y,Y⟩;have s0:=pE 0;have s1:=pE 100;have p0:=yE 0;have p1:=yE 100;have hs:=GB;have hp:=GD;have hws:=rH [30,10] ak (fun z hz=>r6 z (by simp at hz;rcases hz with rfl|rfl<;>simp));have hq:=GE;have e1:=po [ofQ 30,ofQ 10] ak (fun x hx=>by
  simp at hx;rcases hx with rfl|rfl
  .have:=(vI (z:=30) ⟨Y,Y⟩).sz;exact⟨Nat.le_trans this.1 Y,Nat.le_trans this.2 Y⟩
  .have:=(vI (z:=10) ⟨Y,Y⟩).sz
   exact⟨Nat.le_trans this.1 Y,Nat.le_trans this.2 Y⟩)
 have e2:=pp (p := -1/10) (n:=8) (@HQ.div _ _ 4 4 (@HQ.neg _ _ HQ.one) ⟨tR 10 ⟨Y,Y⟩⟩) Y;have e3:=pp (p:=((0:Int):Rat)) ⟨tR 0 ⟨Y,Y⟩⟩ Y;have e4:=pp (p:=((1:Int):Rat)) ⟨tR 1 ⟨Y,Y⟩⟩ Y;have hb1:eB b1=I 40::(eR (ofQ ((25:Int):Rat))++[.sl [eS (ff 0),eS (ff 100)]]):=O;have hb2:eB b2=I 80::(eR (ofQ ((75:Int):Rat))++[.sl [eS (kV 0),eS (kV 100)]]):=O;rw[hb1]at hs;rw[hb2]at hp;rw[show x5 [30,10]=[ofQ 30,ofQ 10] from O]at hws;rw[show jG 0=⟨ofQ ((0:Int):Rat),ofQ ((1:Int):Rat)⟩ from O]at hp;have hzA:eA zA=eR RR.zero++eR RR.zero:=O;clear hb1 hb2;generalize ofQ ((25:Int):Rat)=W25 at *
 generalize ofQ ((75:Int):Rat)=W75 at *
 generalize ofQ ((0:Int):Rat)=W0 at *
 generalize ofQ ((1:Int):Rat)=W1 at *
 generalize ofQ (-1/10:Rat)=WT at *
 generalize ofQ (15:Rat)=W15 at *
 generalize [ofQ (30:Rat),ofQ (10:Rat)]=WF at *
 refine Ret.of_pwp layOk mixed Go.Proofs.Tryz.func7 O Y O O ?_
 ((repeat ((fail_if_success (with_reducible refine a8 1 ?_));refine cP O ?_));refine aQ 4 ?_)
 refine mJ O O O w25 O O ?_;refine mJ O O O s0 O O ?_;refine mJ O O O s1 O O ?_;refine aB (bb 1 O O O O O O O O O O O aK O ?_);refine aW ?_;refine bg O (db (Ghost.takeD (k:=11) (t:=11) O O O) (Fc O ⟨trivial,trivial,trivial⟩ ?_));refine aU ?_;refine mJ O O O hs O O ?_
 ((repeat ((fail_if_success (with_reducible refine a8 2 ?_));refine cP O ?_));refine aQ 4 ?_)
 refine mJ O O O w75 O O ?_;refine mJ O O O p0 O O ?_;refine mJ O O O p1 O O ?_;refine aB (bb 1 O O O O O O O O O O O aK O ?_);refine aW ?_;refine bg O (db (Ghost.takeD (k:=21) (t:=21) O O O) (Fc O ⟨trivial,trivial,trivial⟩ ?_));refine aU ?_;refine mJ O O O hp O O ?_;refine bQ 32 [27,28,29,30,31,32,33,34,35,36,37,38,39,40,41,42,43,44,45,46,47,48,49,50,51,52,53,54,55,56,57,58] ?_;refine H ?_;refine bU O O (dN O O O O O O O O O O aK O) ?_;refine G hws ?_;refine ax e1 ?_;refine G hq ?_;refine ax e2 ?_;refine G w0 ?_;refine ax e3 ?_;refine G w1 ?_;refine ax e4 ?_;exact fW
end Go.Pv
namespace Go.Pv
open Go.RowKit Go.ChangeShapes Go.WideShapes Go.ChangeAt
section
variable {H0:Type}{enc:TypeId × Value->H0}{P:Program}{L:Lay}{w:World}{sp:Nat->Bool}{held:Bool}
def argW (L:Lay)(T:TypeId)(c:PV):Prop:=match L T with
 |some r=>bif r.sh.agg then ∃cs,c = .agg cs/\tyP L 12 T cs else tyP L 12 T [c]
 |none=>False
theorem Bw (hL:io P L){base:Nat}{T:TypeId}{v:Value}{d:DataW H0}{ps:List MemPlace}(hp:gz L 12 T=true)(h:DataW.Trod enc P w 0 sp held T v d ps)(hok:Value.okWide P w .any base T v):∃c,DRep w (fun b=>b<w.heap.size) c v/\argW L T c:=by
 obtain⟨fuel,h⟩:=h;obtain⟨pvs,h1,h2⟩:=pI hL 12 T _ fuel _ hp h;have hp':=hp;simp only[gz]at hp;split at hp
 .rename_i r hr;have hfit:=hL T r hr;have leaf:r.sh.agg=false->(∃c,pvs=[c])->(v.cells.toList.length=1->v.cells=#[v])->∃c,DRep w (fun b=>b<w.heap.size) c v/\argW L T c:=by
   rintro ha ⟨c,rfl⟩ hv;have hc:=hv (by rw[<-h1.1];rfl);have hd:=h1.2 0 c v O (by rw[hc];rfl);refine⟨c,hd.1,?_⟩;unfold argW;rw[hr];simp only[ha,cond_false];exact h2
  have nagg:(∀cs,v ≠ .agg cs)->v.cells=#[v]:=by
   intro h;cases v<;>first|rfl|exact absurd O (h _)
  have hty:∃r',L T=some r'/\_:=h2;obtain⟨r',hr',hty⟩:=hty;rw[hr]at hr';have hr':=Option.some.inj hr';subst hr';split at hp
  .rename_i hs;rw[hs]at hty;obtain⟨b,rfl⟩:=hty;obtain⟨b',rfl⟩:∃b',v = .bool b':=by
    have:=okWide_bool (pN hfit hs) hok;exact this
   exact leaf (by rw[hs];rfl) ⟨_,O⟩ (fun _=>rfl)
  .rename_i k hs;rw[hs]at hty;obtain⟨m,rfl,_⟩:=hty;obtain⟨m',rfl⟩:=okWide_int (l0 hfit hs) hok;exact leaf (by rw[hs];rfl) ⟨_,O⟩ (fun _=>rfl)
  .rename_i hs;rw[hs]at hty;obtain⟨s,rfl,_⟩:=hty;obtain⟨s',rfl⟩:=okWide_string (jZ hfit hs) hok;exact leaf (by rw[hs];rfl) ⟨_,O⟩ (fun _=>rfl)
  .rename_i e hs;rw[hs]at hty;obtain⟨rows,rfl,_⟩:=hty;obtain⟨a,l,c,rfl⟩:=okWide_slice (gK hfit hs) hok;exact leaf (by rw[hs];rfl) ⟨_,O⟩ (fun _=>rfl)
  .rename_i fs hs;obtain⟨fs',hu,_⟩:=pO hfit hs;obtain⟨cs,rfl,_⟩:=okWide_struct hu hok;refine⟨.agg pvs,?_,?_⟩
   .have:=DRep.agg (w:=w) (ok:=fun b=>b<w.heap.size) pvs cs.toList h1.1 (fun i c v e1 e2=>(h1.2 i c v e1 e2).1);simpa using this
   .unfold argW;rw[hr];simp only[hs,Sh.agg,cond_true];exact⟨pvs,O,h2⟩
  .cases hp
 .cases hp
theorem qc (hL:io P L){base:Nat}:∀(ts:List TypeId) (vs:List Value) (ds:List (DataW H0)) (ps:List MemPlace),ts.all (gz L 12)=true->DataW.TrodAll enc P w 0 sp held ts vs ds ps ->
  (∀(j:Nat) t v,ts[j]? = some t->vs[j]? = some v->Value.okWide P w .any base t v) ->
  ∃pargs:List PV,pargs.length=vs.length/\ts.length=vs.length/\ds.length=vs.length/\(∀(i:Nat) (c:PV) (v:Value),pargs[i]? = some c->vs[i]? = some v->DRep w (fun b=>b<w.heap.size) c v)/\∀(i:Nat) t c,ts[i]? = some t->pargs[i]? = some c->argW L t c
 |[],vs,ds,ps,_,h,_=>by
  obtain⟨rfl,rfl,_⟩:=trodAll_nil h;exact⟨[],O,O,O,fun i c v e=>by simp at e,fun i t c e=>by simp at e⟩
 |t::ts,vs,ds,ps,hp,h,hok=>by
  obtain⟨v,vs',d,ds',p,q,rfl,rfl,rfl,h1,h2⟩:=trodAll_cons h;simp only[List.all_cons,Bool.and_eq_true]at hp;obtain⟨c,g1,g2⟩:=Bw hL hp.1 h1 (hok 0 t v O O);obtain⟨pargs,e1,e2,e3,e4,e5⟩:=qc hL ts vs' ds' q hp.2 h2 (fun j t v a b=>hok (j+1) t v (by simpa using a) (by simpa using b));refine⟨c::pargs,by simp[e1],by simp[e2],by simp[e3],fun i c' v' a b=>?_,fun i t' c' a b=>?_⟩
  .cases i with
   |zero=>simp at a b;subst a;subst b;exact g1
   |succ i=>exact e4 i c' v' (by simpa using a) (by simpa using b)
  .cases i with
   |zero=>simp at a b;subst a;subst b;exact g2
   |succ i=>exact e5 i t' c' (by simpa using a) (by simpa using b)
theorem law_stepW [Globs](hL:io P L)(hl:laidOutB P=true){f:FuncId}{fn:Func}{s:ChangeSpec}{ts:List TypeId}{T:TypeId}(hvars:s.vars=[])(hts:fn.params.toList=ts)(hplain:ts.all (gz L 12)=true)
  (hread:ts.all (fun t=>P.readableRec t&&decide (t<P.types.size))=true) (hres:fn.resultTypes=#[T]) (hT:P.underlying T=some .bool)
  (hspec:∀ds:List (DataW H0),ds.length=ts.length->(s.fn H0 ds).results=[.lit (.bool true)]/\(s.fn H0 ds).args=ds/\(s.fn H0 ds).vars=[])
  (law:∀pargs:List PV,pargs.length=ts.length->(∀(i:Nat) t c,ts[i]? = some t->pargs[i]? = some c->argW L t c)->Ret P .shared f pargs (.bool true))
  {W:World} {base:Nat} {args:Array Value} {ds gs:List (DataW H0)} {before:List MemPlace} (hval:∀(j:Nat) t v,fn.params[j]? = some t->args[j]? = some v->Value.okWide P W .any base t v)
  (hglob:Globs.glob W) (hW:DataW.Whole enc P fn.params.toList s.vars false W args.toList ds gs before) :
  Calls P f args W fun e W'=>∃v,e = .returned v/\s.post enc P fn false true false false W args v W':=by
 have hW':=hW;obtain⟨p,q,hA,hV,hpq,hfz,hnd⟩:=hW;rw[hvars]at hV;obtain⟨rfl,rfl⟩:=trodVars_none hV;rw[hts]at hA;obtain⟨pargs,e1,e2,e3,e4,e5⟩:=qc hL (base:=base) ts _ _ _ hplain hA (fun j t v a b=>hval j t v (by rw[<-hts]at a;simpa using a) (by simpa using b));have hret:=law pargs J e5;have hcall:=hret.2 W (fun _=>False) args.toList hglob (fun b hb=>hb.elim) J (fun i c v a b=>(e4 i c v a b).weaken fun b hb=>⟨hb,fun h=>h⟩);have hargs:args.toList.toArray=args:=ak;rw[hargs]at hcall;refine hcall.mono ?_;rintro e W' ⟨v,rfl,hb,hd⟩;refine⟨v,O,?_⟩;have hv:v = .bool true:=by cases hd;rfl
 subst hv;have hlt:∀x∈p,x.block<W.heap.size:=fun x hx=>by
  have:=hW'.lt x (by rw[hpq];simp[hx]);simpa using this
 obtain⟨s1,s2,s3⟩:=hspec ds J;have hgs:ds++([]:List (DataW H0))=ds:=List.append_nil ds;refine⟨ds,[],before,[],p,[],hW',?_,?_,?_,World.keptBut_mono (fun x hx=>hx.elim) (hb.frame (fun _=>False)),fun h=>by cases h⟩
 .rw[hgs,s1,hres];exact trodAll_mk1 (shut_bool hT true)
 .rw[hgs,s2,hts];exact ka hl hb ts _ _ _ (fun t ht=>by
   have:=List.all_eq_true.1 hread t ht
   simpa using this) hA hlt
 .rw[hgs,s3,hvars];exact O
end
end Go.Pv
set_option maxHeartbeats 2000000
namespace Go.Pv
attribute [local irreducible] PWP POps PQuiet PSem aG au am ao
open Go.Proofs
theorem fA {α:Type}{f:α->List PV}{p:α->Prop}:∀ {rows:List (List PV)},(∀row∈rows,∃x,row=f x/\p x)->∃l:List α,rows=l.map f/\∀x∈l,p x
 |[],_=>⟨[],rfl,fun x h=>by cases h⟩
 |row::rows,h=>by
  obtain⟨x,rfl,hx⟩:=h row ak;obtain⟨l,rfl,hl⟩:=fA (rows:=rows) fun r hr=>h r (by simp[hr]);exact⟨x::l,O,fun y hy=>by
   rcases List.mem_cons.1 hy with rfl|hy
   .exact hx
   .exact hl y hy⟩
theorem um {n:Nat}(h:n<=maxLen):n<=9223372036854775807:=by
 have e:maxLen=9223372036854775807:=Y;omega
theorem BU {n:Nat}{cs:List PV}(h:tyP lay.get (n+2) 22 cs):∃l:List UInt16,cs=[.sl (l.map eU)]:=by
 obtain⟨rows,rfl,hr⟩:=Hh h O;obtain⟨l,rfl,-⟩:=fA (f:=eU) (p:=fun _=>True) fun row hrow=>by
  obtain⟨m,rfl,h1,h2⟩:=pJ (hr row hrow) O;have h1:(0:Int)<=m:=h1;have h2:m<=(65535:Int):=h2;refine⟨UInt16.ofNat m.toNat,?_,trivial⟩;rw[eU,bh];congr 2;omega
 exact⟨l,O⟩
theorem F4 {n:Nat}{cs:List PV}(h:tyP lay.get (n+3) 24 cs):∃a:RI,cs=eI a:=by
 obtain⟨parts,rfl,hl,hp⟩:=kT h O
 match parts,hl,hp with
 |[p0,p1],_,hp =>
  obtain⟨b,rfl⟩:=Ed (hp 0 _ p0 O O) O;obtain⟨l,rfl⟩:=BU (hp 1 _ p1 O O);exact⟨⟨b,l⟩,O⟩
theorem F5 {n:Nat}{cs:List PV}(h:tyP lay.get (n+4) 26 cs):∃a:RR,cs=eR a:=by
 obtain⟨parts,rfl,hl,hp⟩:=kT h O
 match parts,hl,hp with
 |[p0,p1],_,hp =>
  obtain⟨a,rfl⟩:=F4 (hp 0 _ p0 O O);obtain⟨b,rfl⟩:=F4 (hp 1 _ p1 O O);exact⟨⟨a,b⟩,O⟩
theorem dec_int {n:Nat}{cs:List PV}(h:tyP lay.get (n+1) 3 cs):∃z:Int,cs=eN z/\i64 z:=by
 obtain⟨m,rfl,h1,h2⟩:=pJ h O;exact⟨m,O,h1,h2⟩
theorem oC {n:Nat}{cs:List PV}(h:tyP lay.get (n+2) 67 cs):∃l:List Int,cs=[.sl (l.map eN)]/\l.length<=9223372036854775807/\∀z∈l,i64 z:=by
 obtain⟨rows,rfl,hlen,hr⟩:=jX h O;obtain⟨l,rfl,hz⟩:=fA (f:=eN) (p:=i64) fun row hrow=>dec_int (hr row hrow);exact⟨l,O,by rw[List.length_map]at hlen;exact um hlen,hz⟩
theorem GJ {n:Nat}{cs:List PV}(h:tyP lay.get (n+5) 34 cs):∃l:List RR,cs=[.sl (l.map eR)]/\l.length<=9223372036854775807:=by
 obtain⟨rows,rfl,hlen,hr⟩:=jX h O;obtain⟨l,rfl,-⟩:=fA (f:=eR) (p:=fun _=>True) fun row hrow=>by
  obtain⟨a,rfl⟩:=F5 (hr row hrow);exact⟨a,O,trivial⟩
 exact⟨l,O,by rw[List.length_map]at hlen;exact um hlen⟩
theorem HM {n:Nat}{cs:List PV}(h:tyP lay.get (n+6) 69 cs):∃c:CR,cs=eC c/\c.S.length<=9223372036854775807/\c.M.length<=9223372036854775807/\∀z∈c.S,i64 z:=by
 obtain⟨parts,rfl,hl,hp⟩:=kT h O
 match parts,hl,hp with
 |[p0,p1],_,hp =>
  obtain⟨S,rfl,h1,h2⟩:=oC (hp 0 _ p0 O O);obtain⟨M,rfl,h3⟩:=GJ (hp 1 _ p1 O O);exact⟨⟨S,M⟩,O,h1,h3,h2⟩
theorem HO {n:Nat}{cs:List PV}(h:tyP lay.get (n+7) 71 cs):∃s:SR,cs=eS s/\(Bp s/\s.k.S.length<=9223372036854775807/\s.k.M.length<=9223372036854775807):=by
 obtain⟨parts,rfl,hl,hp⟩:=kT h O
 match parts,hl,hp with
 |[p0,p1,p2],_,hp =>
  obtain⟨x,rfl,hx⟩:=dec_int (hp 0 _ p0 O O);obtain⟨c,rfl⟩:=F5 (hp 1 _ p1 O O);obtain⟨k,rfl,h1,h2,h3⟩:=HM (hp 2 _ p2 O O);exact⟨⟨x,c,k⟩,by simp[eS,eN],⟨hx,h3⟩,h1,h2⟩
theorem HN {n:Nat}{cs:List PV}(h:tyP lay.get (n+8) 27 cs):∃l:List SR,cs=[.sl (l.map eS)]/\Bt l/\n7 l:=by
 obtain⟨rows,rfl,hlen,hr⟩:=jX h O;obtain⟨l,rfl,hz⟩:=fA (f:=eS) (p:=fun s=>Bp s/\s.k.S.length<=9223372036854775807/\s.k.M.length<=9223372036854775807) fun row hrow=>HO (hr row hrow);exact⟨l,O,⟨by rw[List.length_map]at hlen;exact um hlen,fun s hs=>(hz s hs).2⟩,fun s hs=>(hz s hs).1⟩
structure ArgB (b:BR):Prop where
 w:i64 b.w
 len:Bt b.l
 data:n7 b.l
theorem dec_LL {c:PV}(h:argW lay.get 27 c):∃l:List SR,c = .sl (l.map eS)/\Bt l/\n7 l:=by
 obtain⟨l,hl,h1,h2⟩:=HN (n:=4) (show tyP lay.get 12 27 [c] from h);cases hl;exact⟨l,O,h1,h2⟩
end Go.Pv
