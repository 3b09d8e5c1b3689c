/- Texts of one hand, gathered: DkH, DkI, DkT. -/
import Derived.Test.YtmfjgnchaacgnaaGreatBa5
set_option maxRecDepth 20000
set_option linter.unusedSectionVars false
set_option linter.unusedSimpArgs false
set_option linter.unusedVariables false
set_option linter.unnecessarySimpa false
set_option maxHeartbeats 2000000
namespace Go.Pv
attribute [local irreducible] PWP POps PQuiet PSem aH au aj ao
open Go.Proofs
set_option maxRecDepth 20000 in
theorem fP (s:SHP)(x z:Int)(hx : -1000000<=x/\x<=1000000)(hst:∀t∈s.st,StOk t)(hn:s.st.length<=40):Ret Tryz.prog .shared 42 [.agg (ep s),I x,I z] (.tup [I ((cz x z s.st).getD 0),.bool (cz x z s.st).isSome]):=by
 have hml:(s.st.map eT).length=s.st.length:=ah;have q1:IntKind.i64.wrap (2*x)=2*x:=wrap_i64 J J;generalize hR:cz x z s.st=R;obtain⟨nm,len,st,light,it⟩:=s;simp only at *
 refine Ret.of_pwp layOk mixed Go.Proofs.Tryz.func42 O Y O O ?_;refine H ?_;refine am (fun i:Nat=>i<=st.length/\cz x z (st.drop i)=R) (fun i=>[(1,I x),(2,I z),(3,.ptr 3 1 0 0),(8,I (i:Nat))]) (fun _=>[(3,1,⟨27,9,[ep ⟨nm,len,st,light,it⟩],2⟩)]) (fun i=>st.length-i) 0 ⟨Nat.zero_le _,by rw[List.drop_zero];exact hR⟩ ⟨O,O,O,O,O,trivial⟩ ?_;rintro i s ⟨hi,hall⟩;refine H ?_;rw[hml];refine aV O ?_ ?_<;>intro h
 .have hlt:i<st.length:=by have:=ax h;omega
  clear h;obtain⟨t,ht⟩:=aG hlt;have ok:=hst t (aZ ht);obtain⟨⟨a1,a2⟩,⟨a3,a4⟩,⟨-,aL⟩,hLH,-,-,-⟩:=ok;rw[ov ht]at hall;have q2:IntKind.i64.wrap (2*t.x)=2*t.x:=wrap_i64 J J;have q3:IntKind.i64.wrap (2*t.x-t.w)=2*t.x-t.w:=wrap_i64 J J;have q4:IntKind.i64.wrap (2*t.x+t.w)=2*t.x+t.w:=wrap_i64 J J;have hw:=c_ i;have hmh:(t.H0.map eN).length=t.H0.length:=ah;refine aJ ht ?_;refine H ?_;rw[q1];refine H ?_;rw[q2];refine H ?_;rw[q3];refine Ap O O O ?_ ?_<;>intro h
  .have d1:=ax h;clear h;rw[if_neg (by rw[l9,decide_eq_false J,Bool.false_and];decide)]at hall;refine H ?_;exact⟨i+1,⟨hlt,hall⟩,J,O,O,O,congrArg I hw,O,trivial⟩
  have d1:=aF h;clear h;refine H ?_;rw[q1];refine H ?_;rw[q2];refine H ?_;rw[q4];refine aV O ?_ ?_<;>intro h
  .have d2:=ax h;clear h;rw[if_neg (by rw[l9,decide_eq_false (show ¬2*x<2*t.x+t.w by omega),Bool.and_false];decide)]at hall;refine H ?_;exact⟨i+1,⟨hlt,hall⟩,J,O,O,O,congrArg I hw,O,trivial⟩
  have d2:=aF h;clear h;rw[if_pos (by rw[l9,decide_eq_true J,decide_eq_true J];rfl)]at hall;refine H ?_;refine bq [(1,I x),(2,I z),(3,.ptr 3 1 0 0),(8,I (i:Nat)),(9,.ptr 9 ((s.own 9).1+1) 0 0),(10,I ((0:Nat):Int))] [(3,1,⟨27,9,[ep ⟨nm,len,st,light,it⟩],2⟩),(9,(s.own 9).1+1,⟨130,4,[eT t],2⟩)] ⟨O,O,O,O,O,O,O,O,trivial⟩ ?_;generalize (s.own 9).1+1=g9;intro s1;refine am (fun k:Nat=>k<=t.H0.length/\(match gp t.L z (t.H0.drop k) k with|some n=>some n|none=>cz x z (st.drop (i+1)))=R) (fun k=>[(1,I x),(2,I z),(3,.ptr 3 1 0 0),(8,I (i:Nat)),(9,.ptr 9 g9 0 0),(10,I (k:Nat))]) (fun _=>[(3,1,⟨27,9,[ep ⟨nm,len,st,light,it⟩],2⟩),(9,g9,⟨130,4,[eT t],2⟩)]) (fun k=>t.H0.length-k) 0 ⟨Nat.zero_le _,by rw[List.drop_zero];exact hall⟩ ⟨rfl,rfl,rfl,rfl,rfl,rfl,rfl,rfl,trivial⟩ ?_;clear hall;rintro k s2 ⟨hk,hall⟩;refine H ?_;rw[hmh];refine aV O ?_ ?_<;>intro h
  .have hlk:k<t.H0.length:=by have:=ax h;omega
   clear h;obtain⟨y,hy⟩:=aG hlk;have hlL:k<t.L.length:=J;obtain⟨n,hn⟩:=aG hlL;have hgd:t.L.getD k 0=n:=by rw[List.getD_eq_getElem?_getD,hn];rfl
   have hwk:IntKind.i64.wrap (((k:Nat):Int)+1)=((k+1:Nat):Int):=by rw[wrap_i64 J J];omega
   rw[mV hy,hgd]at hall;refine aJ hy ?_;refine D ?_ ?_<;>intro h
   .have d3:z<y:=ax h;clear h;rw[if_pos d3]at hall;subst hall;refine aJ hn ?_;exact bL
   .have d3:¬z<y:=aF h;clear h;rw[if_neg d3]at hall;refine H ?_;exact⟨k+1,⟨hlk,hall⟩,J,O,O,O,O,O,congrArg I hwk,O,O,trivial⟩
  .have hke:k=t.H0.length:=by have:=aF h;omega
   clear h;subst hke;rw[List.drop_length,gp]at hall;refine H ?_;exact⟨i+1,⟨hlt,hall⟩,J,O,O,O,congrArg I hw,O,trivial⟩
 .have hge:i=st.length:=by have:=aF h;omega
  clear h;subst hge;rw[List.drop_length,cz]at hall;subst hall;exact bL
theorem pc (a b:Int)(h1 : -2000000<=a-b)(h2:a-b<=2000000):Ret Tryz.prog .shared 135 [I a,I b] (I (eZ a b)):=by
 have q1:IntKind.i64.wrap (a-b)=a-b:=wrap_i64 J J;have q2:IntKind.i64.wrap (b-a)=b-a:=wrap_i64 J J;refine Ret.of_pwp layOk mixed Go.Proofs.Tryz.func135 O Y O O ?_;refine H ?_;rw[q1,q2];exact ke O O O
set_option maxRecDepth 20000 in
theorem sD (b:BKR)(hs:b.st.sz 12):Ret Tryz.prog .shared 134 [.agg (eBk b)] (I (if jS b=true then 0 else 2)):=by
 have o1:=bO b.x (-1000000) 1000000;have o2:=bO b.hf 1 10000;have o3:=bO b.ht 0 100000;have o4:=bO b.wd 1 20000;have o5:=bO b.lim 0 1000000000;have o6:=tY b.st (hx:=hs.v) Y;have o7:=bO b.z 1 100000;have hsg:=uc b.st.val;generalize hf:jS b=E;rw[jS,y7]at hf;have hp:decide (0<b.st.val)=!decide (sgn b.st.val<=0):=by
  by_cases h:sgn b.st.val<=0
  .rw[decide_eq_true h,decide_eq_false (fun g=>absurd g (Rat.not_lt.2 (hsg.1 h)))];rfl
  .rw[decide_eq_false h,decide_eq_true (Rat.not_le.1 fun g=>h (hsg.2 g))];rfl
 rw[hp]at hf;clear hp hsg;have hz:aw b.z 1 100000=true->1<=b.z/\b.z<=100000:=fun h=>cS h;obtain⟨x,z,hfw,ht,wd,st,lim,side⟩:=b;simp only at *
 generalize aw x (-1000000) 1000000=b1 at *
 generalize aw hfw 1 10000=b2 at *
 generalize aw ht 0 100000=b3 at *
 generalize aw wd 1 20000=b4 at *
 generalize aw lim 0 1000000000=b5 at *
 generalize aw z 1 100000=b7 at *
 generalize sgn st.val=sg at *
 refine Ret.of_pwp layOk mixed Go.Proofs.Tryz.func134 O Y O O ?_;refine ap o1 ?_;cases b1
 .subst hf;exact bm
 refine ap o2 ?_;cases b2
 .subst hf;exact bm
 refine ap o3 ?_;cases b3
 .subst hf;exact bm
 refine ap o4 ?_;cases b4
 .subst hf;exact bm
 refine ap o5 ?_;cases b5
 .subst hf;exact bm
 refine ap o6 ?_;refine H ?_;by_cases h6:sg<=0
 .rw[decide_eq_true h6]at hf ⊢;subst hf;exact bm
 rw[decide_eq_false h6]at hf ⊢;refine H ?_;cases side
 .by_cases h8:z=0
  .rw[show E=true by rw[<-hf];simp[h8]];subst h8;exact bm
  .rw[show E=false by rw[<-hf];simp[h8]];refine D ?_ ?_<;>intro h
   .clear h;exact bm
   .simp at h;exact absurd h h8
 .refine ap o7 ?_;cases b7
  .subst hf;exact bm
  have hz:=hz O;have q1:IntKind.i64.wrap (2*z)=2*z:=wrap_i64 J J;refine H ?_;rw[q1];by_cases h9:2*z<wd
  .rw[show E=false by rw[<-hf];simp;omega];rw[decide_eq_true h9];exact bm
  .rw[show E=true by rw[<-hf];simp;omega];rw[decide_eq_false h9];exact bm
set_option maxRecDepth 20000 in
theorem tN (d:DKR)(hst:∀t∈d.s.st,StOk t)(h40:d.s.st.length<=40)(hz:d.zn.length<=20/\∀z∈d.zn,ZnIn z)(hb40:d.bl.length<=40)(i:Nat)(b:BKR)(hb:d.bl[i]? = some b)(hs:b.st.sz 12)(hpr:∀j c,j<i->d.bl[j]? = some c->BkIn c) :
  Ret Tryz.prog .shared 73 [.agg (c9 d),I (i:Nat)] (I (fT d.s.st d.zn d.bl i b)):=by
 have r1:=sD b hs;have hin:=fun h=>lw (b:=b) h;have hbt:=fun h:jS b=true=>fP d.s b.x b.z (lw h).x hst h40;have hmz:(d.zn.map fW).length=d.zn.length:=ah;generalize hf:fT d.s.st d.zn d.bl i b=E;rw[fT]at hf;obtain⟨s,den,bl,zn,gm,oh⟩:=d;simp only at *
 have hil:i<bl.length:=(be hb).1;generalize jS b=b1 at *
 refine Ret.of_pwp layOk mixed Go.Proofs.Tryz.func73 O Y O O ?_;refine aJ hb ?_;refine ap r1 ?_;cases b1
 .subst hf;exact bm
 rw[if_pos O]at hf;have hin:=hin O;have hbt:=hbt O;obtain⟨⟨a1,a2⟩,⟨a3,a4⟩,-,⟨a5,a6⟩,⟨a7,a8⟩,-,-⟩:=hin;refine ap hbt ?_;cases hbo:cz b.x b.z s.st with
 |none =>
  rw[hbo,if_neg Y]at hf;subst hf;exact bm
 |some n =>
 rw[hbo,Option.isSome_some,if_pos O]at hf;have p1:IntKind.i64.wrap (b.x-b.hf)=b.x-b.hf:=wrap_i64 J J;have p2:IntKind.i64.wrap (b.x+b.hf)=b.x+b.hf:=wrap_i64 J J;have p3:IntKind.i64.wrap (2*b.z)=2*b.z:=wrap_i64 J J;have p4:IntKind.i64.wrap (2*b.z-b.wd)=2*b.z-b.wd:=wrap_i64 J J;refine H ?_;refine bq [(1,I (i:Nat)),(2,.ptr 2 1 0 0),(5,.ptr 5 1 0 0),(9,I ((0:Nat):Int))] [(2,1,⟨31,14,[c9 ⟨s,den,bl,zn,gm,oh⟩],2⟩),(5,1,⟨108,11,[eBk b],2⟩)] ⟨O,O,O,O,O,O,trivial⟩ ?_;intro s0;refine am (fun k:Nat=>k<=zn.length/\∀j u,j<k->zn[j]? = some u->fD b u=false) (fun k=>[(1,I (i:Nat)),(2,.ptr 2 1 0 0),(5,.ptr 5 1 0 0),(9,I (k:Nat))]) (fun _=>[(2,1,⟨31,14,[c9 ⟨s,den,bl,zn,gm,oh⟩],2⟩),(5,1,⟨108,11,[eBk b],2⟩)]) (fun k=>zn.length-k) 0 ⟨Nat.zero_le _,fun j u hj=>absurd hj J⟩ ⟨O,O,O,O,O,O,trivial⟩ ?_;rintro k s1 ⟨hk,hall⟩;refine H ?_;rw[hmz];refine aV O ?_ ?_<;>intro h
 .have hlt:k<zn.length:=by have:=ax h;omega
  clear h;obtain⟨z,hx⟩:=aG hlt;obtain⟨-,⟨z1,z2⟩,z3,z4⟩:=hz.2 z (aZ hx);have p5:IntKind.i64.wrap (2*z.h)=2*z.h:=wrap_i64 J J;have hw:=c_ k;have go:fD b z=false->∀j u,j<k+1->zn[j]? = some u->fD b u=false:=fun hb j u hj hu=>by
   rcases Nat.lt_or_ge j k with g|g
   .exact hall j u g hu
   .rw[show j=k by omega,hx]at hu;cases hu;exact hb
  refine aJ hx ?_;refine H ?_;rw[p1];refine Ap O O O ?_ ?_<;>intro h
  rotate_left
  .have d1:=aF h;clear h;refine H ?_;exact⟨k+1,⟨hlt,go (by rw[fD,decide_eq_false d1,Bool.false_and,Bool.false_and])⟩,J,O,O,O,congrArg I hw,O,O,trivial⟩
  have d1:=ax h;clear h;refine H ?_;rw[p2];refine cY ?_ ?_<;>intro h
  rotate_left
  .have d2:=aF h;clear h;refine H ?_;exact⟨k+1,⟨hlt,go (by rw[fD,decide_eq_false d2,Bool.and_false,Bool.false_and])⟩,J,O,O,O,congrArg I hw,O,O,trivial⟩
  have d2:=ax h;clear h;refine H ?_;rw[p3];refine H ?_;rw[p4];refine H ?_;rw[p5];refine D ?_ ?_<;>intro h
  .have d3:2*b.z-b.wd<2*z.h:=ax h;clear h;rw[if_pos (mC hx (by rw[fD,decide_eq_true d1,decide_eq_true d2,decide_eq_true d3];rfl))]at hf;subst hf;exact bm
  .have d3:¬2*b.z-b.wd<2*z.h:=aF h;clear h;refine H ?_;exact⟨k+1,⟨hlt,go (by rw[fD,decide_eq_false d3,Bool.and_false])⟩,J,O,O,O,congrArg I hw,O,O,trivial⟩
 have hge:k=zn.length:=by have:=aF h;omega
 clear h;subst hge;rw[oe hall,if_neg Y]at hf;clear hall;refine H ?_;refine am (fun k:Nat=>k<=i/\∀j u,j<k->bl[j]? = some u->fV b u=false) (fun k=>[(1,I (i:Nat)),(2,.ptr 2 1 0 0),(5,.ptr 5 1 0 0),(11,I (k:Nat))]) (fun _=>[(2,1,⟨31,14,[c9 ⟨s,den,bl,zn,gm,oh⟩],2⟩),(5,1,⟨108,11,[eBk b],2⟩)]) (fun k=>i-k) 0 ⟨Nat.zero_le _,fun j u hj=>absurd hj J⟩ ⟨O,O,O,O,O,O,trivial⟩ ?_;rintro k s3 ⟨hk,hall⟩;refine D ?_ ?_<;>intro h
 .have hlt:k<i:=by have:=ax h;omega
  clear h;obtain⟨c,hx⟩:=aG (show k<bl.length by omega);obtain⟨⟨c1,c2⟩,⟨c3,c4⟩,-,⟨c5,c6⟩,⟨c7,c8⟩,-,-⟩:=hpr k c hlt hx;have e1:=pc b.x c.x J J;have e2:=pc b.z c.z J J;have hdz : -2000000<=eZ b.z c.z/\eZ b.z c.z<=2000000:=by rw[eZ];split<;>omega
  have hbc:fV b c=(decide (eZ b.x c.x<b.hf+c.hf)&&decide (2*eZ b.z c.z<b.wd+c.wd)):=O;have q1:IntKind.i64.wrap (b.hf+c.hf)=b.hf+c.hf:=wrap_i64 J J;have q2:IntKind.i64.wrap (2*eZ b.z c.z)=2*eZ b.z c.z:=wrap_i64 J J;have q3:IntKind.i64.wrap (b.wd+c.wd)=b.wd+c.wd:=wrap_i64 J J;have hw:=c_ k;have go:fV b c=false->∀j u,j<k+1->bl[j]? = some u->fV b u=false:=fun hb j u hj hu=>by
   rcases Nat.lt_or_ge j k with g|g
   .exact hall j u g hu
   .rw[show j=k by omega,hx]at hu;cases hu;exact hb
  generalize eZ b.x c.x=D1 at *
  generalize eZ b.z c.z=D2 at *
  refine aJ hx ?_;refine bU 25 [87,88,89,90,91,92,93,94,95,96,97,98,99,100,101,102,103,104,105,106,107,108,109,110,111] ?_;refine ap e1 ?_;refine H ?_;rw[q1];refine Ap O O O ?_ ?_<;>intro h
  rotate_left
  .have d1:=aF h;clear h;refine H ?_;exact⟨k+1,⟨hlt,go (by rw[hbc,decide_eq_false d1,Bool.false_and])⟩,J,O,O,O,congrArg I hw,O,O,trivial⟩
  have d1:=ax h;clear h;refine ap e2 ?_;refine H ?_;rw[q2];refine H ?_;rw[q3];refine D ?_ ?_<;>intro h
  .have d2:2*D2<b.wd+c.wd:=ax h;clear h;rw[if_pos (mD hlt hx (by rw[hbc,decide_eq_true d1,decide_eq_true d2];rfl))]at hf;subst hf;exact bm
  .have d2:¬2*D2<b.wd+c.wd:=aF h;clear h;refine H ?_;exact⟨k+1,⟨hlt,go (by rw[hbc,decide_eq_false d2,Bool.and_false])⟩,J,O,O,O,congrArg I hw,O,O,trivial⟩
 have hge:k=i:=by have:=aF h;omega
 clear h;subst hge;rw[jo hall,if_neg Y]at hf;subst hf;exact bm
set_option maxRecDepth 20000 in
theorem l0 (d:DKR)(hd:d.Ok):Ret Tryz.prog .shared 19 [.agg (c9 d)] (I (kX d)):=by
 have h1:=lZ d.s hd.len.s;have h2:=qn d.d;have h4:=bO d.gm (-100000) 100000;have h5:=bO d.oh 0 1000000;have hmb:(d.bl.map eBk).length=d.bl.length:=ah;have hmz:(d.zn.map fW).length=d.zn.length:=ah;have hsz:=hd.st;have hlb:=hd.len.bl;have hlz:=hd.len.zn;generalize hf:kX d=E;rw[kX,jA]at hf;by_cases hE:cE d.s=0
 rotate_left
 .rw[if_neg hE,if_neg hE]at hf;obtain⟨s,den,bl,zn,gm,oh⟩:=d;simp only at *
  generalize cE s=e at *
  subst hf;refine Ret.of_pwp layOk mixed Go.Proofs.Tryz.func19 O Y O O ?_;refine ap h1 ?_;refine D ?_ ?_<;>intro h
  .clear h;exact bm
  .simp at h;exact absurd h hE
 obtain⟨hst,h40⟩:=lG hE;rw[hE]at h1;rw[if_pos hE]at hf;have hbr:=fun i b hb hpr hz hb40=>tN d hst h40 hz hb40 i b hb (hsz b (aZ hb)) hpr;clear hE;obtain⟨s,den,bl,zn,gm,oh⟩:=d;simp only at *
 refine Ret.of_pwp layOk mixed Go.Proofs.Tryz.func19 O Y O O ?_;refine ap h1 ?_;refine ap h2 ?_;cases hi:aw den 900 1100 with
 |false =>
  rw[hi]at hf;subst hf;exact bm
 |true =>
 rw[hi,if_pos O,if_pos O,ef]at hf;refine H ?_;rw[hmz];refine aV O ?_ ?_<;>intro h
 .rw[if_pos (show 20<zn.length by have:=ax h;omega),if_neg Y]at hf;subst hf;exact bm
 have h20:¬20<zn.length:=by have:=aF h;omega
 clear h h1 h2;have hz0:eG zn (mb zn)=0->ef zn=0:=fun h=>by rw[ef,if_neg h20];exact h
 rw[if_neg h20]at hf;refine H ?_;refine am (ClearE zn (mb zn)) (fun k=>[(1,.ptr 1 1 0 0),(5,I (k:Nat))]) (fun _=>[(1,1,⟨31,14,[c9 ⟨s,den,bl,zn,gm,oh⟩],2⟩)]) (fun k=>zn.length-k) 0 .zero' ⟨O,O,O,trivial⟩ ?_;intro k s1 hk;have hkl:=hk.1;refine H ?_;rw[hmz];refine aV O ?_ ?_<;>intro h
 .have hlt:k<zn.length:=by have:=ax h;omega
  clear h;obtain⟨z,hx⟩:=aG hlt;have n0:=jE z.nm;have o1:=bO z.a (-1000000) 1000000;have o2:=bO z.b (-1000000) 1000000;have o3:=bO z.h 0 100000;have hw:=c_ k;have hfl:∀e,mb zn k z=e->e≠0->E=e:=fun e h he=>by
   rw[hk.found hx h he,if_neg he]at hf;exact hf.symm
  have hsu:=fun(h:mb zn k z=0)=>hk.succ hx h;rw[mb]at hfl hsu;generalize bS z.nm=b0 at *
  generalize aw z.a (-1000000) 1000000=b2 at *
  generalize aw z.b (-1000000) 1000000=b3 at *
  generalize aw z.h 0 100000=b4 at *
  clear hk hf;refine aJ hx ?_;refine ap n0 ?_;cases b0
  .have:=hfl 4 (by rfl) Y;subst this;exact bm
  refine H ?_;refine bq [(1,.ptr 1 1 0 0),(5,I (k:Nat)),(6,.ptr 6 ((s1.own 6).1+1) 0 0),(7,I ((0:Nat):Int))] [(1,1,⟨31,14,[c9 ⟨s,den,bl,zn,gm,oh⟩],2⟩),(6,(s1.own 6).1+1,⟨132,4,[fW z],2⟩)] ⟨O,O,O,O,O,O,trivial⟩ ?_;generalize (s1.own 6).1+1=g6;intro s2;refine am (fun j:Nat=>j<=k/\∀i u,i<j->zn[i]? = some u->u.nm≠z.nm) (fun j=>[(1,.ptr 1 1 0 0),(5,I (k:Nat)),(6,.ptr 6 g6 0 0),(7,I (j:Nat))]) (fun _=>[(1,1,⟨31,14,[c9 ⟨s,den,bl,zn,gm,oh⟩],2⟩),(6,g6,⟨132,4,[fW z],2⟩)]) (fun j=>k-j) 0 ⟨Nat.zero_le _,fun i u hi=>absurd hi J⟩ ⟨O,O,O,O,O,O,trivial⟩ ?_;rintro j s3 ⟨hj,hall⟩;refine D ?_ ?_<;>intro h
  .have hlj:j<k:=by have:=ax h;omega
   clear h;obtain⟨u,hu⟩:=aG (show j<zn.length by omega);have hwj:IntKind.i64.wrap (((j:Nat):Int)+1)=((j+1:Nat):Int):=by rw[wrap_i64 J J];omega
   refine bU 9 [47,48,49,50,51,52,53,54,55] ?_;refine aJ hu ?_;refine D ?_ ?_<;>intro h
   .have he:u.nm=z.nm:=by simpa using h
    clear h;have hA:(zn.take k).any (fun y=>decide (y.nm=z.nm))=true:=mD hlj hu (by rw[he];simp);rw[hA]at hfl;have:=hfl 5 (by rfl) Y;subst this;exact bm
   .have he:u.nm≠z.nm:=by simpa using h
    clear h;refine H ?_;refine⟨j+1,⟨hlj,fun i v hi hv=>?_⟩,J,O,O,O,congrArg I hwj,O,O,trivial⟩;rcases Nat.lt_or_ge i j with g|g
    .exact hall i v g hv
    .rw[show i=j by omega,hu]at hv;cases hv;exact he
  have hje:j=k:=by have:=aF h;omega
  clear h;subst hje;have hA:(zn.take j).any (fun y=>decide (y.nm=z.nm))=false:=by
   rw[List.any_eq_false];intro v hv;obtain⟨i,hi⟩:=List.mem_iff_getElem?.1 hv;have hij:i<j:=by have:=(be hi).1;rw[List.length_take]at this;omega
   rw[List.getElem?_take_of_lt hij]at hi;simpa using hall i v hij hi
  rw[hA]at hfl hsu;refine ap o1 ?_;cases b2
  .have:=hfl 2 (by rfl) Y;subst this;exact bm
  refine ap o2 ?_;cases b3
  .have:=hfl 2 (by rfl) Y;subst this;exact bm
  refine cY ?_ ?_<;>intro h
  .have hab:=ax h;clear h;have:=hfl 2 aK Y;subst this;exact bm
  have hab:=aF h;clear h;refine ap o3 ?_;cases b4
  .have:=hfl 2 ah Y;subst this;exact bm
  refine H ?_;exact⟨j+1,hsu aK,J,O,congrArg I hw,O,trivial⟩
 have hge:¬k<zn.length:=by have:=aF h;omega
 clear h;have hz:ef zn=0:=hz0 (hk.none hge);have hzi:=ta hz;rw[hk.none hge,if_pos O,mF]at hf;clear hz0 hz hk;refine H ?_;rw[hmb];refine aV O ?_ ?_<;>intro h
 .rw[if_pos (show 40<bl.length by have:=ax h;omega),if_neg Y]at hf;subst hf;exact bm
 have hb40:¬40<bl.length:=by have:=aF h;omega
 clear h;rw[if_neg hb40]at hf;refine H ?_;refine am (ClearE bl (fT s.st zn bl)) (fun k=>[(1,.ptr 1 1 0 0),(8,I (k:Nat))]) (fun _=>[(1,1,⟨31,14,[c9 ⟨s,den,bl,zn,gm,oh⟩],2⟩)]) (fun k=>bl.length-k) 0 .zero' ⟨O,O,O,trivial⟩ ?_;clear hkl;intro k s1 hk;have hkl:=hk.1;refine H ?_;rw[hmb];refine aV O ?_ ?_<;>intro h
 .have hlt:k<bl.length:=by have:=ax h;omega
  clear h;obtain⟨b,hx⟩:=aG hlt;have c1:=hbr k b hx (fun j c hj hc=>tm (hk.2 j c hj hc)) hzi J;have hw:=c_ k;have hfl:=fun e (h:fT s.st zn bl k b=e) (he:e≠0)=>hk.found hx h he;have hsu:=fun(h:fT s.st zn bl k b=0)=>hk.succ hx h;generalize fT s.st zn bl k b=e at *
  refine ap c1 ?_;refine D ?_ ?_<;>intro h
  .have he:e≠0:=by simpa using h
   clear h;have:=hfl e O he;rw[this,if_neg he]at hf;subst hf;exact bm
  .have he:e=0:=by simpa using h
   clear h;refine H ?_;exact⟨k+1,hsu he,J,O,congrArg I hw,O,trivial⟩
 have hge:¬k<bl.length:=by have:=aF h;omega
 clear h;rw[hk.none hge,if_pos O]at hf;refine ap h4 ?_;cases h4b:aw gm (-100000) 100000 with
 |false =>
  rw[h4b]at hf;subst hf;exact bm
 |true =>
 rw[h4b]at hf;refine ap h5 ?_;cases h5b:aw oh 0 1000000;all_goals
  rw[h5b]at hf;subst hf;exact bm
theorem oB (d:DKR)(h:SmD d):Ret Tryz.prog .shared 18 [.agg (c9 d)] (.agg (c9 d)) :=
 q9 d (Nat.le_trans h.st Y) (Nat.le_trans h.it Y) (Nat.le_trans h.bl Y) (Nat.le_trans h.zn Y) (fun t ht=>⟨Nat.le_trans (h.L t ht).1 Y,Nat.le_trans (h.L t ht).2 Y⟩) (fun b hb=>Az (h.b b hb) Y)
set_option maxRecDepth 20000 in
theorem checks4_law (d:DKR)(hl:d.Len):Ret Tryz.prog .shared 3 [.agg (c9 d)] (.bool true):=by
 have a:=jp;have s:=vv d;cases hS:DD d with
 |false =>
  rw[hS]at s;refine Ret.of_pwp layOk mixed Go.Proofs.Tryz.func3 O Y O O ?_;refine ap a ?_;refine bU 11 [5,6,7,8,9,10,11,12,13,14,15] ?_;refine ap s ?_;exact fE
 |true =>
  rw[hS]at s;have sm:=CJ hS;have c:=oB d sm;have p:=fe d (sm.ok hl);have r:=l0 d (sm.ok hl);generalize kX d=e at *
  refine Ret.of_pwp layOk mixed Go.Proofs.Tryz.func3 O Y O O ?_;refine ap a ?_;refine bU 11 [5,6,7,8,9,10,11,12,13,14,15] ?_;refine ap s ?_;refine G c ?_;refine ap p ?_;refine ap r ?_;refine H ?_;exact bW O O ah
end Go.Pv
