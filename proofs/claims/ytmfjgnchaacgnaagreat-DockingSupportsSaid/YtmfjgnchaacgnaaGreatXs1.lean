/- Texts of one hand, gathered: DkH, DkI, DkT, DkV, DkW. -/
import Derived.Test.YtmfjgnchaacgnaaGreatBa5
set_option maxRecDepth 20000
set_option linter.unusedSectionVars false
set_option linter.unusedSimpArgs false
set_option linter.unusedVariables false
set_option linter.unnecessarySimpa false
set_option maxHeartbeats 2000000
namespace Go.Pv
attribute [local irreducible] PWP POps PQuiet PSem aH au aj ao
open Go.Proofs
set_option maxRecDepth 20000 in
theorem fP (s:SHP)(x z:Int)(hx : -1000000<=x/\x<=1000000)(hst:∀t∈s.st,StOk t)(hn:s.st.length<=40):Ret Tryz.prog .shared 42 [.agg (ep s),I x,I z] (.tup [I ((cz x z s.st).getD 0),.bool (cz x z s.st).isSome]):=by
 have hml:(s.st.map eT).length=s.st.length:=ah;have q1:IntKind.i64.wrap (2*x)=2*x:=wrap_i64 J J;generalize hR:cz x z s.st=R;obtain⟨nm,len,st,light,it⟩:=s;simp only at *
 refine Ret.of_pwp layOk mixed Go.Proofs.Tryz.func42 O Y O O ?_;refine H ?_;refine am (fun i:Nat=>i<=st.length/\cz x z (st.drop i)=R) (fun i=>[(1,I x),(2,I z),(3,.ptr 3 1 0 0),(8,I (i:Nat))]) (fun _=>[(3,1,⟨27,9,[ep ⟨nm,len,st,light,it⟩],2⟩)]) (fun i=>st.length-i) 0 ⟨Nat.zero_le _,by rw[List.drop_zero];exact hR⟩ ⟨O,O,O,O,O,trivial⟩ ?_;rintro i s ⟨hi,hall⟩;refine H ?_;rw[hml];refine aV O ?_ ?_<;>intro h
 .have hlt:i<st.length:=by have:=ax h;omega
  clear h;obtain⟨t,ht⟩:=aG hlt;have ok:=hst t (aZ ht);obtain⟨⟨a1,a2⟩,⟨a3,a4⟩,⟨-,aL⟩,hLH,-,-,-⟩:=ok;rw[ov ht]at hall;have q2:IntKind.i64.wrap (2*t.x)=2*t.x:=wrap_i64 J J;have q3:IntKind.i64.wrap (2*t.x-t.w)=2*t.x-t.w:=wrap_i64 J J;have q4:IntKind.i64.wrap (2*t.x+t.w)=2*t.x+t.w:=wrap_i64 J J;have hw:=c_ i;have hmh:(t.H0.map eN).length=t.H0.length:=ah;refine aJ ht ?_;refine H ?_;rw[q1];refine H ?_;rw[q2];refine H ?_;rw[q3];refine Ap O O O ?_ ?_<;>intro h
  .have d1:=ax h;clear h;rw[if_neg (by rw[l9,decide_eq_false J,Bool.false_and];decide)]at hall;refine H ?_;exact⟨i+1,⟨hlt,hall⟩,J,O,O,O,congrArg I hw,O,trivial⟩
  have d1:=aF h;clear h;refine H ?_;rw[q1];refine H ?_;rw[q2];refine H ?_;rw[q4];refine aV O ?_ ?_<;>intro h
  .have d2:=ax h;clear h;rw[if_neg (by rw[l9,decide_eq_false (show ¬2*x<2*t.x+t.w by omega),Bool.and_false];decide)]at hall;refine H ?_;exact⟨i+1,⟨hlt,hall⟩,J,O,O,O,congrArg I hw,O,trivial⟩
  have d2:=aF h;clear h;rw[if_pos (by rw[l9,decide_eq_true J,decide_eq_true J];rfl)]at hall;refine H ?_;refine bq [(1,I x),(2,I z),(3,.ptr 3 1 0 0),(8,I (i:Nat)),(9,.ptr 9 ((s.own 9).1+1) 0 0),(10,I ((0:Nat):Int))] [(3,1,⟨27,9,[ep ⟨nm,len,st,light,it⟩],2⟩),(9,(s.own 9).1+1,⟨130,4,[eT t],2⟩)] ⟨O,O,O,O,O,O,O,O,trivial⟩ ?_;generalize (s.own 9).1+1=g9;intro s1;refine am (fun k:Nat=>k<=t.H0.length/\(match gp t.L z (t.H0.drop k) k with|some n=>some n|none=>cz x z (st.drop (i+1)))=R) (fun k=>[(1,I x),(2,I z),(3,.ptr 3 1 0 0),(8,I (i:Nat)),(9,.ptr 9 g9 0 0),(10,I (k:Nat))]) (fun _=>[(3,1,⟨27,9,[ep ⟨nm,len,st,light,it⟩],2⟩),(9,g9,⟨130,4,[eT t],2⟩)]) (fun k=>t.H0.length-k) 0 ⟨Nat.zero_le _,by rw[List.drop_zero];exact hall⟩ ⟨rfl,rfl,rfl,rfl,rfl,rfl,rfl,rfl,trivial⟩ ?_;clear hall;rintro k s2 ⟨hk,hall⟩;refine H ?_;rw[hmh];refine aV O ?_ ?_<;>intro h
  .have hlk:k<t.H0.length:=by have:=ax h;omega
   clear h;obtain⟨y,hy⟩:=aG hlk;have hlL:k<t.L.length:=J;obtain⟨n,hn⟩:=aG hlL;have hgd:t.L.getD k 0=n:=by rw[List.getD_eq_getElem?_getD,hn];rfl
   have hwk:IntKind.i64.wrap (((k:Nat):Int)+1)=((k+1:Nat):Int):=by rw[wrap_i64 J J];omega
   rw[mV hy,hgd]at hall;refine aJ hy ?_;refine D ?_ ?_<;>intro h
   .have d3:z<y:=ax h;clear h;rw[if_pos d3]at hall;subst hall;refine aJ hn ?_;exact bL
   .have d3:¬z<y:=aF h;clear h;rw[if_neg d3]at hall;refine H ?_;exact⟨k+1,⟨hlk,hall⟩,J,O,O,O,O,O,congrArg I hwk,O,O,trivial⟩
  .have hke:k=t.H0.length:=by have:=aF h;omega
   clear h;subst hke;rw[List.drop_length,gp]at hall;refine H ?_;exact⟨i+1,⟨hlt,hall⟩,J,O,O,O,congrArg I hw,O,trivial⟩
 .have hge:i=st.length:=by have:=aF h;omega
  clear h;subst hge;rw[List.drop_length,cz]at hall;subst hall;exact bL
theorem pc (a b:Int)(h1 : -2000000<=a-b)(h2:a-b<=2000000):Ret Tryz.prog .shared 135 [I a,I b] (I (eZ a b)):=by
 have q1:IntKind.i64.wrap (a-b)=a-b:=wrap_i64 J J;have q2:IntKind.i64.wrap (b-a)=b-a:=wrap_i64 J J;refine Ret.of_pwp layOk mixed Go.Proofs.Tryz.func135 O Y O O ?_;refine H ?_;rw[q1,q2];exact ke O O O
set_option maxRecDepth 20000 in
theorem sD (b:BKR)(hs:b.st.sz 12):Ret Tryz.prog .shared 134 [.agg (eBk b)] (I (if jS b=true then 0 else 2)):=by
 have o1:=bO b.x (-1000000) 1000000;have o2:=bO b.hf 1 10000;have o3:=bO b.ht 0 100000;have o4:=bO b.wd 1 20000;have o5:=bO b.lim 0 1000000000;have o6:=tY b.st (hx:=hs.v) Y;have o7:=bO b.z 1 100000;have hsg:=uc b.st.val;generalize hf:jS b=E;rw[jS,y7]at hf;have hp:decide (0<b.st.val)=!decide (sgn b.st.val<=0):=by
  by_cases h:sgn b.st.val<=0
  .rw[decide_eq_true h,decide_eq_false (fun g=>absurd g (Rat.not_lt.2 (hsg.1 h)))];rfl
  .rw[decide_eq_false h,decide_eq_true (Rat.not_le.1 fun g=>h (hsg.2 g))];rfl
 rw[hp]at hf;clear hp hsg;have hz:aw b.z 1 100000=true->1<=b.z/\b.z<=100000:=fun h=>cS h;obtain⟨x,z,hfw,ht,wd,st,lim,side⟩:=b;simp only at *
 generalize aw x (-1000000) 1000000=b1 at *
 generalize aw hfw 1 10000=b2 at *
 generalize aw ht 0 100000=b3 at *
 generalize aw wd 1 20000=b4 at *
 generalize aw lim 0 1000000000=b5 at *
 generalize aw z 1 100000=b7 at *
 generalize sgn st.val=sg at *
 refine Ret.of_pwp layOk mixed Go.Proofs.Tryz.func134 O Y O O ?_;refine ap o1 ?_;cases b1
 .subst hf;exact bm
 refine ap o2 ?_;cases b2
 .subst hf;exact bm
 refine ap o3 ?_;cases b3
 .subst hf;exact bm
 refine ap o4 ?_;cases b4
 .subst hf;exact bm
 refine ap o5 ?_;cases b5
 .subst hf;exact bm
 refine ap o6 ?_;refine H ?_;by_cases h6:sg<=0
 .rw[decide_eq_true h6]at hf ⊢;subst hf;exact bm
 rw[decide_eq_false h6]at hf ⊢;refine H ?_;cases side
 .by_cases h8:z=0
  .rw[show E=true by rw[<-hf];simp[h8]];subst h8;exact bm
  .rw[show E=false by rw[<-hf];simp[h8]];refine D ?_ ?_<;>intro h
   .clear h;exact bm
   .simp at h;exact absurd h h8
 .refine ap o7 ?_;cases b7
  .subst hf;exact bm
  have hz:=hz O;have q1:IntKind.i64.wrap (2*z)=2*z:=wrap_i64 J J;refine H ?_;rw[q1];by_cases h9:2*z<wd
  .rw[show E=false by rw[<-hf];simp;omega];rw[decide_eq_true h9];exact bm
  .rw[show E=true by rw[<-hf];simp;omega];rw[decide_eq_false h9];exact bm
set_option maxRecDepth 20000 in
theorem tN (d:DKR)(hst:∀t∈d.s.st,StOk t)(h40:d.s.st.length<=40)(hz:d.zn.length<=20/\∀z∈d.zn,ZnIn z)(hb40:d.bl.length<=40)(i:Nat)(b:BKR)(hb:d.bl[i]? = some b)(hs:b.st.sz 12)(hpr:∀j c,j<i->d.bl[j]? = some c->BkIn c) :
  Ret Tryz.prog .shared 73 [.agg (c9 d),I (i:Nat)] (I (fT d.s.st d.zn d.bl i b)):=by
 have r1:=sD b hs;have hin:=fun h=>lw (b:=b) h;have hbt:=fun h:jS b=true=>fP d.s b.x b.z (lw h).x hst h40;have hmz:(d.zn.map fW).length=d.zn.length:=ah;generalize hf:fT d.s.st d.zn d.bl i b=E;rw[fT]at hf;obtain⟨s,den,bl,zn,gm,oh⟩:=d;simp only at *
 have hil:i<bl.length:=(be hb).1;generalize jS b=b1 at *
 refine Ret.of_pwp layOk mixed Go.Proofs.Tryz.func73 O Y O O ?_;refine aJ hb ?_;refine ap r1 ?_;cases b1
 .subst hf;exact bm
 rw[if_pos O]at hf;have hin:=hin O;have hbt:=hbt O;obtain⟨⟨a1,a2⟩,⟨a3,a4⟩,-,⟨a5,a6⟩,⟨a7,a8⟩,-,-⟩:=hin;refine ap hbt ?_;cases hbo:cz b.x b.z s.st with
 |none =>
  rw[hbo,if_neg Y]at hf;subst hf;exact bm
 |some n =>
 rw[hbo,Option.isSome_some,if_pos O]at hf;have p1:IntKind.i64.wrap (b.x-b.hf)=b.x-b.hf:=wrap_i64 J J;have p2:IntKind.i64.wrap (b.x+b.hf)=b.x+b.hf:=wrap_i64 J J;have p3:IntKind.i64.wrap (2*b.z)=2*b.z:=wrap_i64 J J;have p4:IntKind.i64.wrap (2*b.z-b.wd)=2*b.z-b.wd:=wrap_i64 J J;refine H ?_;refine bq [(1,I (i:Nat)),(2,.ptr 2 1 0 0),(5,.ptr 5 1 0 0),(9,I ((0:Nat):Int))] [(2,1,⟨31,14,[c9 ⟨s,den,bl,zn,gm,oh⟩],2⟩),(5,1,⟨108,11,[eBk b],2⟩)] ⟨O,O,O,O,O,O,trivial⟩ ?_;intro s0;refine am (fun k:Nat=>k<=zn.length/\∀j u,j<k->zn[j]? = some u->fD b u=false) (fun k=>[(1,I (i:Nat)),(2,.ptr 2 1 0 0),(5,.ptr 5 1 0 0),(9,I (k:Nat))]) (fun _=>[(2,1,⟨31,14,[c9 ⟨s,den,bl,zn,gm,oh⟩],2⟩),(5,1,⟨108,11,[eBk b],2⟩)]) (fun k=>zn.length-k) 0 ⟨Nat.zero_le _,fun j u hj=>absurd hj J⟩ ⟨O,O,O,O,O,O,trivial⟩ ?_;rintro k s1 ⟨hk,hall⟩;refine H ?_;rw[hmz];refine aV O ?_ ?_<;>intro h
 .have hlt:k<zn.length:=by have:=ax h;omega
  clear h;obtain⟨z,hx⟩:=aG hlt;obtain⟨-,⟨z1,z2⟩,z3,z4⟩:=hz.2 z (aZ hx);have p5:IntKind.i64.wrap (2*z.h)=2*z.h:=wrap_i64 J J;have hw:=c_ k;have go:fD b z=false->∀j u,j<k+1->zn[j]? = some u->fD b u=false:=fun hb j u hj hu=>by
   rcases Nat.lt_or_ge j k with g|g
   .exact hall j u g hu
   .rw[show j=k by omega,hx]at hu;cases hu;exact hb
  refine aJ hx ?_;refine H ?_;rw[p1];refine Ap O O O ?_ ?_<;>intro h
  rotate_left
  .have d1:=aF h;clear h;refine H ?_;exact⟨k+1,⟨hlt,go (by rw[fD,decide_eq_false d1,Bool.false_and,Bool.false_and])⟩,J,O,O,O,congrArg I hw,O,O,trivial⟩
  have d1:=ax h;clear h;refine H ?_;rw[p2];refine cY ?_ ?_<;>intro h
  rotate_left
  .have d2:=aF h;clear h;refine H ?_;exact⟨k+1,⟨hlt,go (by rw[fD,decide_eq_false d2,Bool.and_false,Bool.false_and])⟩,J,O,O,O,congrArg I hw,O,O,trivial⟩
  have d2:=ax h;clear h;refine H ?_;rw[p3];refine H ?_;rw[p4];refine H ?_;rw[p5];refine D ?_ ?_<;>intro h
  .have d3:2*b.z-b.wd<2*z.h:=ax h;clear h;rw[if_pos (mC hx (by rw[fD,decide_eq_true d1,decide_eq_true d2,decide_eq_true d3];rfl))]at hf;subst hf;exact bm
  .have d3:¬2*b.z-b.wd<2*z.h:=aF h;clear h;refine H ?_;exact⟨k+1,⟨hlt,go (by rw[fD,decide_eq_false d3,Bool.and_false])⟩,J,O,O,O,congrArg I hw,O,O,trivial⟩
 have hge:k=zn.length:=by have:=aF h;omega
 clear h;subst hge;rw[oe hall,if_neg Y]at hf;clear hall;refine H ?_;refine am (fun k:Nat=>k<=i/\∀j u,j<k->bl[j]? = some u->fV b u=false) (fun k=>[(1,I (i:Nat)),(2,.ptr 2 1 0 0),(5,.ptr 5 1 0 0),(11,I (k:Nat))]) (fun _=>[(2,1,⟨31,14,[c9 ⟨s,den,bl,zn,gm,oh⟩],2⟩),(5,1,⟨108,11,[eBk b],2⟩)]) (fun k=>i-k) 0 ⟨Nat.zero_le _,fun j u hj=>absurd hj J⟩ ⟨O,O,O,O,O,O,trivial⟩ ?_;rintro k s3 ⟨hk,hall⟩;refine D ?_ ?_<;>intro h
 .have hlt:k<i:=by have:=ax h;omega
  clear h;obtain⟨c,hx⟩:=aG (show k<bl.length by omega);obtain⟨⟨c1,c2⟩,⟨c3,c4⟩,-,⟨c5,c6⟩,⟨c7,c8⟩,-,-⟩:=hpr k c hlt hx;have e1:=pc b.x c.x J J;have e2:=pc b.z c.z J J;have hdz : -2000000<=eZ b.z c.z/\eZ b.z c.z<=2000000:=by rw[eZ];split<;>omega
  have hbc:fV b c=(decide (eZ b.x c.x<b.hf+c.hf)&&decide (2*eZ b.z c.z<b.wd+c.wd)):=O;have q1:IntKind.i64.wrap (b.hf+c.hf)=b.hf+c.hf:=wrap_i64 J J;have q2:IntKind.i64.wrap (2*eZ b.z c.z)=2*eZ b.z c.z:=wrap_i64 J J;have q3:IntKind.i64.wrap (b.wd+c.wd)=b.wd+c.wd:=wrap_i64 J J;have hw:=c_ k;have go:fV b c=false->∀j u,j<k+1->bl[j]? = some u->fV b u=false:=fun hb j u hj hu=>by
   rcases Nat.lt_or_ge j k with g|g
   .exact hall j u g hu
   .rw[show j=k by omega,hx]at hu;cases hu;exact hb
  generalize eZ b.x c.x=D1 at *
  generalize eZ b.z c.z=D2 at *
  refine aJ hx ?_;refine bU 25 [87,88,89,90,91,92,93,94,95,96,97,98,99,100,101,102,103,104,105,106,107,108,109,110,111] ?_;refine ap e1 ?_;refine H ?_;rw[q1];refine Ap O O O ?_ ?_<;>intro h
  rotate_left
  .have d1:=aF h;clear h;refine H ?_;exact⟨k+1,⟨hlt,go (by rw[hbc,decide_eq_false d1,Bool.false_and])⟩,J,O,O,O,congrArg I hw,O,O,trivial⟩
  have d1:=ax h;clear h;refine ap e2 ?_;refine H ?_;rw[q2];refine H ?_;rw[q3];refine D ?_ ?_<;>intro h
  .have d2:2*D2<b.wd+c.wd:=ax h;clear h;rw[if_pos (mD hlt hx (by rw[hbc,decide_eq_true d1,decide_eq_true d2];rfl))]at hf;subst hf;exact bm
  .have d2:¬2*D2<b.wd+c.wd:=aF h;clear h;refine H ?_;exact⟨k+1,⟨hlt,go (by rw[hbc,decide_eq_false d2,Bool.and_false])⟩,J,O,O,O,congrArg I hw,O,O,trivial⟩
 have hge:k=i:=by have:=aF h;omega
 clear h;subst hge;rw[jo hall,if_neg Y]at hf;subst hf;exact bm
set_option maxRecDepth 20000 in
theorem l0 (d:DKR)(hd:d.Ok):Ret Tryz.prog .shared 19 [.agg (c9 d)] (I (kX d)):=by
 have h1:=lZ d.s hd.len.s;have h2:=qn d.d;have h4:=bO d.gm (-100000) 100000;have h5:=bO d.oh 0 1000000;have hmb:(d.bl.map eBk).length=d.bl.length:=ah;have hmz:(d.zn.map fW).length=d.zn.length:=ah;have hsz:=hd.st;have hlb:=hd.len.bl;have hlz:=hd.len.zn;generalize hf:kX d=E;rw[kX,jA]at hf;by_cases hE:cE d.s=0
 rotate_left
 .rw[if_neg hE,if_neg hE]at hf;obtain⟨s,den,bl,zn,gm,oh⟩:=d;simp only at *
  generalize cE s=e at *
  subst hf;refine Ret.of_pwp layOk mixed Go.Proofs.Tryz.func19 O Y O O ?_;refine ap h1 ?_;refine D ?_ ?_<;>intro h
  .clear h;exact bm
  .simp at h;exact absurd h hE
 obtain⟨hst,h40⟩:=lG hE;rw[hE]at h1;rw[if_pos hE]at hf;have hbr:=fun i b hb hpr hz hb40=>tN d hst h40 hz hb40 i b hb (hsz b (aZ hb)) hpr;clear hE;obtain⟨s,den,bl,zn,gm,oh⟩:=d;simp only at *
 refine Ret.of_pwp layOk mixed Go.Proofs.Tryz.func19 O Y O O ?_;refine ap h1 ?_;refine ap h2 ?_;cases hi:aw den 900 1100 with
 |false =>
  rw[hi]at hf;subst hf;exact bm
 |true =>
 rw[hi,if_pos O,if_pos O,ef]at hf;refine H ?_;rw[hmz];refine aV O ?_ ?_<;>intro h
 .rw[if_pos (show 20<zn.length by have:=ax h;omega),if_neg Y]at hf;subst hf;exact bm
 have h20:¬20<zn.length:=by have:=aF h;omega
 clear h h1 h2;have hz0:eG zn (mb zn)=0->ef zn=0:=fun h=>by rw[ef,if_neg h20];exact h
 rw[if_neg h20]at hf;refine H ?_;refine am (ClearE zn (mb zn)) (fun k=>[(1,.ptr 1 1 0 0),(5,I (k:Nat))]) (fun _=>[(1,1,⟨31,14,[c9 ⟨s,den,bl,zn,gm,oh⟩],2⟩)]) (fun k=>zn.length-k) 0 .zero' ⟨O,O,O,trivial⟩ ?_;intro k s1 hk;have hkl:=hk.1;refine H ?_;rw[hmz];refine aV O ?_ ?_<;>intro h
 .have hlt:k<zn.length:=by have:=ax h;omega
  clear h;obtain⟨z,hx⟩:=aG hlt;have n0:=jE z.nm;have o1:=bO z.a (-1000000) 1000000;have o2:=bO z.b (-1000000) 1000000;have o3:=bO z.h 0 100000;have hw:=c_ k;have hfl:∀e,mb zn k z=e->e≠0->E=e:=fun e h he=>by
   rw[hk.found hx h he,if_neg he]at hf;exact hf.symm
  have hsu:=fun(h:mb zn k z=0)=>hk.succ hx h;rw[mb]at hfl hsu;generalize bS z.nm=b0 at *
  generalize aw z.a (-1000000) 1000000=b2 at *
  generalize aw z.b (-1000000) 1000000=b3 at *
  generalize aw z.h 0 100000=b4 at *
  clear hk hf;refine aJ hx ?_;refine ap n0 ?_;cases b0
  .have:=hfl 4 (by rfl) Y;subst this;exact bm
  refine H ?_;refine bq [(1,.ptr 1 1 0 0),(5,I (k:Nat)),(6,.ptr 6 ((s1.own 6).1+1) 0 0),(7,I ((0:Nat):Int))] [(1,1,⟨31,14,[c9 ⟨s,den,bl,zn,gm,oh⟩],2⟩),(6,(s1.own 6).1+1,⟨132,4,[fW z],2⟩)] ⟨O,O,O,O,O,O,trivial⟩ ?_;generalize (s1.own 6).1+1=g6;intro s2;refine am (fun j:Nat=>j<=k/\∀i u,i<j->zn[i]? = some u->u.nm≠z.nm) (fun j=>[(1,.ptr 1 1 0 0),(5,I (k:Nat)),(6,.ptr 6 g6 0 0),(7,I (j:Nat))]) (fun _=>[(1,1,⟨31,14,[c9 ⟨s,den,bl,zn,gm,oh⟩],2⟩),(6,g6,⟨132,4,[fW z],2⟩)]) (fun j=>k-j) 0 ⟨Nat.zero_le _,fun i u hi=>absurd hi J⟩ ⟨O,O,O,O,O,O,trivial⟩ ?_;rintro j s3 ⟨hj,hall⟩;refine D ?_ ?_<;>intro h
  .have hlj:j<k:=by have:=ax h;omega
   clear h;obtain⟨u,hu⟩:=aG (show j<zn.length by omega);have hwj:IntKind.i64.wrap (((j:Nat):Int)+1)=((j+1:Nat):Int):=by rw[wrap_i64 J J];omega
   refine bU 9 [47,48,49,50,51,52,53,54,55] ?_;refine aJ hu ?_;refine D ?_ ?_<;>intro h
   .have he:u.nm=z.nm:=by simpa using h
    clear h;have hA:(zn.take k).any (fun y=>decide (y.nm=z.nm))=true:=mD hlj hu (by rw[he];simp);rw[hA]at hfl;have:=hfl 5 (by rfl) Y;subst this;exact bm
   .have he:u.nm≠z.nm:=by simpa using h
    clear h;refine H ?_;refine⟨j+1,⟨hlj,fun i v hi hv=>?_⟩,J,O,O,O,congrArg I hwj,O,O,trivial⟩;rcases Nat.lt_or_ge i j with g|g
    .exact hall i v g hv
    .rw[show i=j by omega,hu]at hv;cases hv;exact he
  have hje:j=k:=by have:=aF h;omega
  clear h;subst hje;have hA:(zn.take j).any (fun y=>decide (y.nm=z.nm))=false:=by
   rw[List.any_eq_false];intro v hv;obtain⟨i,hi⟩:=List.mem_iff_getElem?.1 hv;have hij:i<j:=by have:=(be hi).1;rw[List.length_take]at this;omega
   rw[List.getElem?_take_of_lt hij]at hi;simpa using hall i v hij hi
  rw[hA]at hfl hsu;refine ap o1 ?_;cases b2
  .have:=hfl 2 (by rfl) Y;subst this;exact bm
  refine ap o2 ?_;cases b3
  .have:=hfl 2 (by rfl) Y;subst this;exact bm
  refine cY ?_ ?_<;>intro h
  .have hab:=ax h;clear h;have:=hfl 2 aK Y;subst this;exact bm
  have hab:=aF h;clear h;refine ap o3 ?_;cases b4
  .have:=hfl 2 ah Y;subst this;exact bm
  refine H ?_;exact⟨j+1,hsu aK,J,O,congrArg I hw,O,trivial⟩
 have hge:¬k<zn.length:=by have:=aF h;omega
 clear h;have hz:ef zn=0:=hz0 (hk.none hge);have hzi:=ta hz;rw[hk.none hge,if_pos O,mF]at hf;clear hz0 hz hk;refine H ?_;rw[hmb];refine aV O ?_ ?_<;>intro h
 .rw[if_pos (show 40<bl.length by have:=ax h;omega),if_neg Y]at hf;subst hf;exact bm
 have hb40:¬40<bl.length:=by have:=aF h;omega
 clear h;rw[if_neg hb40]at hf;refine H ?_;refine am (ClearE bl (fT s.st zn bl)) (fun k=>[(1,.ptr 1 1 0 0),(8,I (k:Nat))]) (fun _=>[(1,1,⟨31,14,[c9 ⟨s,den,bl,zn,gm,oh⟩],2⟩)]) (fun k=>bl.length-k) 0 .zero' ⟨O,O,O,trivial⟩ ?_;clear hkl;intro k s1 hk;have hkl:=hk.1;refine H ?_;rw[hmb];refine aV O ?_ ?_<;>intro h
 .have hlt:k<bl.length:=by have:=ax h;omega
  clear h;obtain⟨b,hx⟩:=aG hlt;have c1:=hbr k b hx (fun j c hj hc=>tm (hk.2 j c hj hc)) hzi J;have hw:=c_ k;have hfl:=fun e (h:fT s.st zn bl k b=e) (he:e≠0)=>hk.found hx h he;have hsu:=fun(h:fT s.st zn bl k b=0)=>hk.succ hx h;generalize fT s.st zn bl k b=e at *
  refine ap c1 ?_;refine D ?_ ?_<;>intro h
  .have he:e≠0:=by simpa using h
   clear h;have:=hfl e O he;rw[this,if_neg he]at hf;subst hf;exact bm
  .have he:e=0:=by simpa using h
   clear h;refine H ?_;exact⟨k+1,hsu he,J,O,congrArg I hw,O,trivial⟩
 have hge:¬k<bl.length:=by have:=aF h;omega
 clear h;rw[hk.none hge,if_pos O]at hf;refine ap h4 ?_;cases h4b:aw gm (-100000) 100000 with
 |false =>
  rw[h4b]at hf;subst hf;exact bm
 |true =>
 rw[h4b]at hf;refine ap h5 ?_;cases h5b:aw oh 0 1000000;all_goals
  rw[h5b]at hf;subst hf;exact bm
theorem oB (d:DKR)(h:SmD d):Ret Tryz.prog .shared 18 [.agg (c9 d)] (.agg (c9 d)) :=
 q9 d (Nat.le_trans h.st Y) (Nat.le_trans h.it Y) (Nat.le_trans h.bl Y) (Nat.le_trans h.zn Y) (fun t ht=>⟨Nat.le_trans (h.L t ht).1 Y,Nat.le_trans (h.L t ht).2 Y⟩) (fun b hb=>Az (h.b b hb) Y)
set_option maxRecDepth 20000 in
theorem ub {K:St->Prop}{s':St}{dd k1 k2 k3:Nat}{c1 c2 c3:Cont}{x y:Operand}{tys:Array TypeId}{ty:TypeId}{pos:String}{af:Array Edge}(s:SHP)(d:Nat)(hd1:1<=d)(hd2:d<=1000000000)(hk:∀t∈s.st,StOk t)(h40:s.st.length<=40)(hx:s'.ev x = .agg (ep s))(hy:s'.ev y=I (d:Nat))(ho:FitO s' [(1003,k1,c1),(1102,k2,c2),(1103,k3,c3)])
  (hK:∀(s1:St) (g:Nat),K (({ reg:=s'.reg,own:=(s1.over [] [(1005,g,⟨136,7,(cy d s.st).map eS,1⟩),(1003,k1,c1),(1102,k2,c2),(1103,k3,c3)]).own }:St).putR dd (.als 1005 g 0 ((cy d s.st).map eS).length))) :
  Sm Tryz.prog lay.get s' ⟨some dd,.call ⟨.value (.func 100),#[x,y],tys⟩,ty,pos,af,none⟩ K:=by
 have w0:=DL;have hml:((s.st.map eT).length:Int)=s.st.length:=ah;obtain⟨nm,len,st,light,it⟩:=s;simp only at *
 refine cG layOk O O Tryz.func100 O Y O O ?_;show PWP _ _ _ _ (bQ s' (([x,y]:List Operand).map s'.ev++[]));rw[show(([x,y]:List Operand).map s'.ev++([]:List PV))=[.agg (ep ⟨nm,len,st,light,it⟩),I (d:Nat)] by simp[hx,hy]];rw[show bQ s' [.agg (ep ⟨nm,len,st,light,it⟩),I (d:Nat)]=bQ (s'.over [] [(1003,k1,c1),(1102,k2,c2),(1103,k3,c3)]) [.agg (ep ⟨nm,len,st,light,it⟩),I (d:Nat)] by rw[Fit.over (l:=[]) ho]]
 (repeat ((fail_if_success (with_reducible refine aR 2 ?_));refine cu O ?_))
 refine ar (Ghost.nilreg (k:=1005) (t:=5) 136 7 1 O O) ?_;refine H ?_;refine bq [(1,I (d:Nat)),(2,.ptr 2 ((s'.own 2).1+1) 0 0),(5,.als 1005 ((s'.own 1005).1+1) 0 0),(6,I ((0:Nat):Int))] [(2,(s'.own 2).1+1,⟨27,9,[ep ⟨nm,len,st,light,it⟩],2⟩),(1005,(s'.own 1005).1+1,⟨136,7,[],1⟩),(1003,k1,c1),(1102,k2,c2),(1103,k3,c3)] ⟨O,O,O,O,O,O,O,O,O,trivial⟩ ?_;generalize (s'.own 2).1+1=g2;generalize (s'.own 1005).1+1=g5;intro s0;refine am (fun i:Nat=>i<=st.length) (fun i=>[(1,I (d:Nat)),(2,.ptr 2 g2 0 0),(5,.als 1005 (g5+i) 0 ((cy d (st.take i)).map eS).length),(6,I (i:Nat))]) (fun i=>[(2,g2,⟨27,9,[ep ⟨nm,len,st,light,it⟩],2⟩),(1005,g5+i,⟨136,7,(cy d (st.take i)).map eS,1⟩),(1003,k1,c1),(1102,k2,c2),(1103,k3,c3)]) (fun i=>st.length-i) 0 (Nat.zero_le _) ⟨O,O,O,O,O,O,O,O,O,trivial⟩ ?_;intro i s hi;refine H ?_;rw[hml];refine aV O ?_ ?_<;>intro h
 .have hlt:i<st.length:=by have:=ax h;omega
  clear h;obtain⟨t,hx⟩:=aG hlt;have ok:=hk t (aZ hx);have hsn:=sV (d:=d) hx;have hsl:(cy d (st.take i)).length<=40:=by rw[cy,List.length_map,List.length_take];omega
  have hw:=c_ i;have e2:=(kV t.L (by have:=ok.n;omega)).shared_of_fresh;have hmh:((t.H0.map eN).length:Int)=t.H0.length:=ah;have hmL:((t.L.map eN).length:Int)=t.L.length:=ah;have hn:=ok.n;have hh:=ok.h;have hsup:lI d t=⟨t.x,ofQ 0,⟨t.L,qC d t⟩⟩:=O;have hsll:=Ad d t;have hge:=fun k (h:k<t.H0.length) x (hx:t.H0[k]? = some x)=>DC (d:=d) h hx;have hgz:=fun k (h:k=t.H0.length)=>DB (d:=d) (t:=t) h;generalize hS:cy d (st.take i)=S at *
  generalize hLL:qC d t=LL at *
  obtain⟨tx,tw,tL,tH⟩:=t;simp only at *
  refine aJ hx ?_;refine G e2 ?_;refine H ?_;refine bq [(1,I (d:Nat)),(2,.ptr 2 g2 0 0),(5,.als 1005 (g5+i) 0 (S.map eS).length),(6,I (i:Nat)),(7,.ptr 7 ((s.own 7).1+1) 0 0),(8,.ptr 8 ((s.own 8).1+1) 0 0),(9,I ((0:Nat):Int))] [(2,g2,⟨27,9,[ep ⟨nm,len,st,light,it⟩],2⟩),(1005,g5+i,⟨136,7,S.map eS,1⟩),(7,(s.own 7).1+1,⟨130,4,[eT ⟨tx,tw,tL,tH⟩],2⟩),(8,(s.own 8).1+1,⟨134,2,[[.sl (tL.map eN),.nil]],2⟩),(1003,k1,c1),(1102,k2,c2),(1103,k3,c3)] ⟨O,O,O,O,O,O,O,O,O,O,O,O,O,O,trivial⟩ ?_;generalize (s.own 7).1+1=g7;generalize (s.own 8).1+1=g8;intro s1;refine ar (Ghost.nilcell (k:=300) (k0:=8) (i:=0) (j:=1) (row:=[.sl (tL.map eN),.nil]) 42 4 1 O O O O O O O) ?_;have hg3:∃g3,(s1.own 300).1+1=g3:=⟨_,O⟩;obtain⟨g3,hg3⟩:=hg3;refine am (fun k:Nat=>k<=tL.length) (fun k=>[(1,I (d:Nat)),(2,.ptr 2 g2 0 0),(5,.als 1005 (g5+i) 0 (S.map eS).length),(6,I (i:Nat)),(7,.ptr 7 g7 0 0),(8,.ptr 8 g8 0 0),(9,I (k:Nat))])
   (fun k=>[(2,g2,⟨27,9,[ep ⟨nm,len,st,light,it⟩],2⟩),(1005,g5+i,⟨136,7,S.map eS,1⟩),(7,g7,⟨130,4,[eT ⟨tx,tw,tL,tH⟩],2⟩),(8,g8,⟨134,2,[[.sl (tL.map eN),.als 300 (g3+k) 0 ((LL.take k).map eR).length]],2⟩),(300,g3+k,⟨42,4,(LL.take k).map eR,1⟩),(1003,k1,c1),(1102,k2,c2),(1103,k3,c3)]) (fun k=>tL.length-k) 0 (Nat.zero_le _)
   ⟨O,O,O,O,O,O,O,O,O,O,by rw[<-hg3];rfl,by rw[<-hg3];rfl,O,O,O,trivial⟩ ?_
  clear hg3;intro k s2 hkl;refine H ?_;rw[hmL];refine aV O ?_ ?_<;>intro h
  .have hlk:k<tL.length:=by have:=ax h;omega
   clear h;have hwk:IntKind.i64.wrap (((k:Nat):Int)+1)=((k+1:Nat):Int):=by rw[wrap_i64 J J];omega
   have hkl2:((LL.take k).map eR).length<=1000:=by rw[List.length_map,List.length_take];omega
   have hrk:∀n,LL[k]? = some n->(LL.take (k+1)).map eR=(LL.take k).map eR++[eR n]:=fun n hn=>by rw[bk hn,List.map_append];rfl
   have hb3:g3+(k+1)=g3+k+1:=O;generalize (LL.take k).map eR=E at *
   refine G w0 ?_;refine H ?_;rw[hmh];refine aV O ?_ ?_<;>intro h
   .have hlh:k<tH.length:=by have:=ax h;omega
    clear h;obtain⟨x,hm⟩:=aG hlh;have hxl:=ok.H0 x (aZ hm);have hvl:0<=2*x*tw/\2*x*tw<=20000000000:=qK hxl ok.w;obtain⟨v1,v2⟩:=hvl;have zv:Zb (2*x*tw):=aM J J;have u1:=fS (2*x*tw) ⟨J,J⟩;have u2:=xf (ofQ ((2*x*tw:Int):Rat)) (hx:=Vq.ofQ (h:=HQ.int)) Y d hd1 hd2;rw[show ofQ (((2*x*tw:Int):Rat)*((d:Rat)/1000000000))=vq d tw x from O]at u2;have q1:IntKind.i64.wrap (2*x)=2*x:=wrap_i64 J J;have q2:IntKind.i64.wrap (2*x*tw)=2*x*tw:=wrap_i64 J J;have hrw:=hrk _ (hge k hlh x hm);generalize vq d tw x=n at *
    refine bU 12 [40,41,42,43,44,45,46,47,48,49,50,51] ?_;refine aJ hm ?_;refine H ?_;rw[q1];refine H ?_;rw[q2];refine nT O O O u1 O O ?_;refine G u2 ?_;refine H ?_;refine aE (aS 1 O O O O O O O O O O O aI O ?_);refine H ?_;refine aE (bi 1 O O O O O O O O O O O aI (by intro row hr;first|(simp at hr;subst hr;rfl)|simp at hr) O O aK aK ?_);refine H ?_;refine⟨k+1,hlk,J,O,O,O,O,O,O,congrArg I hwk,O,O,O,?_,?_,O,O,O,trivial⟩
    .rw[hrw,hb3];rfl
    .rw[hrw,hb3];rfl
   .have hlh:k=tH.length:=by have:=aF h;omega
    clear h;have hrw:=hrk _ (hgz k hlh);generalize ofQ 0=n at *
    refine H ?_;refine aE (aS 1 O O O O O O O O O O O aI O ?_);refine H ?_;refine aE (bi 1 O O O O O O O O O O O aI (by intro row hr;first|(simp at hr;subst hr;rfl)|simp at hr) O O aK aK ?_);refine H ?_;refine⟨k+1,hlk,J,O,O,O,O,O,O,congrArg I hwk,O,O,O,?_,?_,O,O,O,trivial⟩
    .rw[hrw,hb3];rfl
    .rw[hrw,hb3];rfl
  .have hke:k=tL.length:=by have:=aF h;omega
   clear h;subst hke;rw[List.take_of_length_le (show LL.length<=tL.length by omega)];refine ar (Ghost.freezeD (k:=300) (k0:=8) (i:=0) (j:=1) (row:=[.sl (tL.map eN),.als 300 (g3+tL.length) 0 (LL.map eR).length]) O O O O O O O O) ?_;refine H ?_;refine bj [64,1005] [6,7,8] br ?_;refine G w0 ?_;refine H ?_;refine i8 O O O (aS 1 O O O O O O O O O O O aI O ⟨dj O,?_⟩);refine H ?_;refine i8 O O O (bi 1 O O O O O O O O O O O aI (by intro row hr;first|(simp at hr;subst hr;rfl)|(simp at hr;obtain⟨_,_,rfl⟩:=hr;rfl)|simp at hr) O O aK aK ⟨dj O,?_⟩);refine H ?_;have hrow:(cy d (st.take (i+1))).map eS=S.map eS++[[I tx]++eR (ofQ 0)++[.sl (tL.map eN),.sl (LL.map eR)]]:=by
    rw[hsn,hsup];rfl
   refine⟨i+1,hlt,J,O,O,?_,congrArg I hw,O,?_,O,O,O,trivial⟩
   .rw[hrow];rfl
   .rw[hrow];rfl
 .have hie:i=st.length:=by have:=aF h;omega
  clear h;subst hie;rw[List.take_length];refine H ?_;exact pV (K:=fun o r=>K (({ reg:=s'.reg,own:=o }:St).putR dd r)) [(1005,g5+st.length,⟨136,7,(cy d st).map eS,1⟩),(1003,k1,c1),(1102,k2,c2),(1103,k3,c3)] (.inl O) O O ⟨O,O,O,O,trivial⟩ (fun s1=>hK s1 _)
set_option maxRecDepth 20000 in
theorem sy (k:DKR)(hk:k.Bl):Ret Tryz.prog .shared 37 [.agg (c9 k)] (.sl ((bG k.s.st k.bl).map eS)):=by
 have hml:(k.bl.map eBk).length=k.bl.length:=ah;obtain⟨hst,hn,hb,hm⟩:=hk;obtain⟨s,den,bl,zn,gm,oh⟩:=k;simp only at *
 refine Ret.of_pwp layOk mixed Go.Proofs.Tryz.func37 O Y O O ?_
 (repeat ((fail_if_success (with_reducible refine aR 2 ?_));refine cu O ?_))
 refine ar (Ghost.nilreg (k:=1003) (t:=3) 136 7 1 O O) ?_;refine H ?_;refine bq [(1,.ptr 1 1 0 0),(3,.als 1003 1 0 0),(4,I ((0:Nat):Int))] [(1,1,⟨31,14,[c9 ⟨s,den,bl,zn,gm,oh⟩],2⟩),(1003,1,⟨136,7,[],1⟩)] ⟨O,O,O,O,O,trivial⟩ ?_;intro s0;refine am (fun i:Nat=>i<=bl.length) (fun i=>[(1,.ptr 1 1 0 0),(3,.als 1003 (1+i) 0 ((bG s.st (bl.take i)).map eS).length),(4,I (i:Nat))])
  (fun i=>[(1,1,⟨31,14,[c9 ⟨s,den,bl,zn,gm,oh⟩],2⟩),(1003,1+i,⟨136,7,(bG s.st (bl.take i)).map eS,1⟩)]) (fun i=>bl.length-i) 0 (Nat.zero_le _) ⟨O,O,O,O,O,trivial⟩ ?_
 intro i s1 hi;refine D ?_ ?_<;>intro h
 .have hlt:i<bl.length:=by have:=ax h;simp only[hml]at this;omega
  clear h;obtain⟨b,hx⟩:=aG hlt;obtain⟨hin,hsz⟩:=hb b (aZ hx);have hrow:=iR (st:=s.st) hx;have e0:=fP s b.x b.z hin.x hst hn;have hbi:=iT hst b;have hht:=hin.ht;rw[show(cz b.x b.z s.st).getD 0=cU s.st b from O]at e0;have hwh:IntKind.i64.wrap (b.ht-cU s.st b)=b.ht-cU s.st b:=wrap_i64 J J;have z2:Zb 2:=aM Y Y;have e2:=fa b.st (by have:=hsz.1;omega) (by have:=hsz.2;omega);have hnq:Vq (ofQ b.st.val) b.st.val 13:=Vq.ofQ (h:=hsz.v.hq);have e3:=fS 2 ⟨Y,Y⟩;have e4:=lu (ofQ b.st.val) (ofQ ((2:Int):Rat)) (hx:=hnq) Y Y;have e5:=fS (b.ht-cU s.st b) ⟨J,J⟩;have hst1:b.side=false->ofQ (ee b)=ofQ b.st.val:=fun h=>by rw[ee,h,if_neg Y]
  have hst2:b.side=true->ofQ (ee b)=ofQ (b.st.val*((2:Int):Rat)):=fun h=>by rw[ee,h,if_pos O];rfl
  have hbS:eS (jq s.st b)=I b.x::(eR (ofQ ((b.ht-cU s.st b:Int):Rat))++[.sl [[I 0]],.sl [eR (ofQ (ee b))]]):=O;have hw:=c_ i;have hll:(bG s.st (bl.take i)).length<=40:=by rw[bG,List.length_map,List.length_take];omega
  clear hnq;generalize jq s.st b=bs at *
  generalize bG s.st (bl.take i)=Bl at *
  generalize (cz b.x b.z s.st).isSome=bo at *
  generalize hF:ofQ (ee b)=F at *
  generalize cU s.st b=bt at *
  generalize ofQ ((b.ht-bt:Int):Rat)=C at *
  generalize ofQ (b.st.val*((2:Int):Rat))=F2 at *
  generalize ofQ b.st.val=F1 at *
  generalize ofQ ((2:Int):Rat)=W2 at *
  refine aJ hx ?_;refine G e2 ?_;refine H ?_;by_cases hsd:b.side=true
  .have hF2:=hst2 hsd;subst hF2;rw[hsd];refine bU 3 [26,27,28] ?_;refine G e3 ?_;refine G e4 ?_;refine ap e0 ?_;refine H ?_;refine bj [52,1003] [13,14,15] br ?_;refine H ?_;rw[hwh];refine nT O O O e5 O O ?_;refine H ?_;refine bI O O (cm O O O O O O O O O O aI O) ?_;refine H ?_;refine bI O O (fO O O O O O O O O O O aI O) ?_;refine H ?_;refine i8 O O O (aS 1 O O O O O O O O O O O aI O ⟨dj O,?_⟩);refine H ?_;refine i8 O O O (bi 1 O O O O O O O O O O O aI (by intro row hr;first|(simp at hr;subst hr;rfl)|(simp at hr;obtain⟨_,_,rfl⟩:=hr;rfl)|simp at hr) O O aK aK ⟨dj O,?_⟩);refine H ?_;have hr2:(bG s.st (bl.take (i+1))).map eS=Bl.map eS++[I b.x::(eR C++[.sl [[I 0]],.sl [eR F]])]:=by rw[hrow,List.map_append,<-hbS];rfl
   refine⟨i+1,hlt,J,O,?_,congrArg I hw,O,?_,trivial⟩
   .rw[hr2];rfl
   .rw[hr2];rfl
  .have hsd:b.side=false:=by simpa using hsd
   have hF1:=hst1 hsd;subst hF1;rw[hsd];refine ap e0 ?_;refine H ?_;refine bj [52,1003] [13,14,15] br ?_;refine H ?_;rw[hwh];refine nT O O O e5 O O ?_;refine H ?_;refine bI O O (cm O O O O O O O O O O aI O) ?_;refine H ?_;refine bI O O (fO O O O O O O O O O O aI O) ?_;refine H ?_;refine i8 O O O (aS 1 O O O O O O O O O O O aI O ⟨dj O,?_⟩);refine H ?_;refine i8 O O O (bi 1 O O O O O O O O O O O aI (by intro row hr;first|(simp at hr;subst hr;rfl)|(simp at hr;obtain⟨_,_,rfl⟩:=hr;rfl)|simp at hr) O O aK aK ⟨dj O,?_⟩);refine H ?_;have hr2:(bG s.st (bl.take (i+1))).map eS=Bl.map eS++[I b.x::(eR C++[.sl [[I 0]],.sl [eR F]])]:=by rw[hrow,List.map_append,<-hbS];rfl
   refine⟨i+1,hlt,J,O,?_,congrArg I hw,O,?_,trivial⟩
   .rw[hr2];rfl
   .rw[hr2];rfl
 .have hie:i=bl.length:=by have:=aF h;simp only[hml]at this;omega
  clear h;subst hie;rw[List.take_length]
  (repeat ((fail_if_success (with_reducible refine dl ?_));refine cu O ?_))
  refine ar (Ghost.takeD (k:=1003) (t:=2) O O O) ?_;exact bL
set_option maxRecDepth 20000 in
theorem sx {K:St->Prop}{s':St}{d k2 k3:Nat}{c2 c3:Cont}{x:Operand}{tys:Array TypeId}{ty:TypeId}{pos:String}{af:Array Edge}(k:DKR)(hk:k.Bl)(hx:s'.ev x = .agg (c9 k))(ho:FitO s' [(1102,k2,c2),(1103,k3,c3)])
  (hK:∀(s1:St) (g:Nat),K (({ reg:=s'.reg,own:=(s1.over [] [(1003,g,⟨136,7,(bG k.s.st k.bl).map eS,1⟩),(1102,k2,c2),(1103,k3,c3)]).own }:St).putR d (.als 1003 g 0 ((bG k.s.st k.bl).map eS).length))) :
  Sm Tryz.prog lay.get s' ⟨some d,.call ⟨.value (.func 37),#[x],tys⟩,ty,pos,af,none⟩ K:=by
 have hml:(k.bl.map eBk).length=k.bl.length:=ah;obtain⟨hst,hn,hb,hm⟩:=hk;obtain⟨s,den,bl,zn,gm,oh⟩:=k;simp only at *
 refine cG layOk O O Tryz.func37 O Y O O ?_;show PWP _ _ _ _ (bQ s' (([x]:List Operand).map s'.ev++[]));rw[show(([x]:List Operand).map s'.ev++([]:List PV))=[.agg (c9 ⟨s,den,bl,zn,gm,oh⟩)] by simp[hx]];rw[show bQ s' [.agg (c9 ⟨s,den,bl,zn,gm,oh⟩)]=bQ (s'.over [] [(1102,k2,c2),(1103,k3,c3)]) [.agg (c9 ⟨s,den,bl,zn,gm,oh⟩)] by rw[Fit.over (l:=[]) ho]]
 (repeat ((fail_if_success (with_reducible refine aR 2 ?_));refine cu O ?_))
 refine ar (Ghost.nilreg (k:=1003) (t:=3) 136 7 1 O O) ?_;refine H ?_;refine bq [(1,.ptr 1 ((s'.own 1).1+1) 0 0),(3,.als 1003 ((s'.own 1003).1+1) 0 0),(4,I ((0:Nat):Int))] [(1,((s'.own 1).1+1),⟨31,14,[c9 ⟨s,den,bl,zn,gm,oh⟩],2⟩),(1003,((s'.own 1003).1+1),⟨136,7,[],1⟩),(1102,k2,c2),(1103,k3,c3)] ⟨O,O,O,O,O,O,O,trivial⟩ ?_;generalize (s'.own 1).1+1=g1;generalize (s'.own 1003).1+1=g3;intro s0;refine am (fun i:Nat=>i<=bl.length) (fun i=>[(1,.ptr 1 g1 0 0),(3,.als 1003 (g3+i) 0 ((bG s.st (bl.take i)).map eS).length),(4,I (i:Nat))])
  (fun i=>[(1,g1,⟨31,14,[c9 ⟨s,den,bl,zn,gm,oh⟩],2⟩),(1003,g3+i,⟨136,7,(bG s.st (bl.take i)).map eS,1⟩),(1102,k2,c2),(1103,k3,c3)]) (fun i=>bl.length-i) 0 (Nat.zero_le _) ⟨O,O,O,O,O,O,O,trivial⟩ ?_
 intro i s1 hi;refine D ?_ ?_<;>intro h
 .have hlt:i<bl.length:=by have:=ax h;simp only[hml]at this;omega
  clear h;obtain⟨b,hx⟩:=aG hlt;obtain⟨hin,hsz⟩:=hb b (aZ hx);have hrow:=iR (st:=s.st) hx;have e0:=fP s b.x b.z hin.x hst hn;have hbi:=iT hst b;have hht:=hin.ht;rw[show(cz b.x b.z s.st).getD 0=cU s.st b from O]at e0;have hwh:IntKind.i64.wrap (b.ht-cU s.st b)=b.ht-cU s.st b:=wrap_i64 J J;have z2:Zb 2:=aM Y Y;have e2:=fa b.st (by have:=hsz.1;omega) (by have:=hsz.2;omega);have hnq:Vq (ofQ b.st.val) b.st.val 13:=Vq.ofQ (h:=hsz.v.hq);have e3:=fS 2 ⟨Y,Y⟩;have e4:=lu (ofQ b.st.val) (ofQ ((2:Int):Rat)) (hx:=hnq) Y Y;have e5:=fS (b.ht-cU s.st b) ⟨J,J⟩;have hst1:b.side=false->ofQ (ee b)=ofQ b.st.val:=fun h=>by rw[ee,h,if_neg Y]
  have hst2:b.side=true->ofQ (ee b)=ofQ (b.st.val*((2:Int):Rat)):=fun h=>by rw[ee,h,if_pos O];rfl
  have hbS:eS (jq s.st b)=I b.x::(eR (ofQ ((b.ht-cU s.st b:Int):Rat))++[.sl [[I 0]],.sl [eR (ofQ (ee b))]]):=O;have hw:=c_ i;have hll:(bG s.st (bl.take i)).length<=40:=by rw[bG,List.length_map,List.length_take];omega
  clear hnq;generalize jq s.st b=bs at *
  generalize bG s.st (bl.take i)=Bl at *
  generalize (cz b.x b.z s.st).isSome=bo at *
  generalize hF:ofQ (ee b)=F at *
  generalize cU s.st b=bt at *
  generalize ofQ ((b.ht-bt:Int):Rat)=C at *
  generalize ofQ (b.st.val*((2:Int):Rat))=F2 at *
  generalize ofQ b.st.val=F1 at *
  generalize ofQ ((2:Int):Rat)=W2 at *
  refine aJ hx ?_;refine G e2 ?_;refine H ?_;by_cases hsd:b.side=true
  .have hF2:=hst2 hsd;subst hF2;rw[hsd];refine bU 3 [26,27,28] ?_;refine G e3 ?_;refine G e4 ?_;refine ap e0 ?_;refine H ?_;refine bj [52,1003] [13,14,15] br ?_;refine H ?_;rw[hwh];refine nT O O O e5 O O ?_;refine H ?_;refine bI O O (cm O O O O O O O O O O aI O) ?_;refine H ?_;refine bI O O (fO O O O O O O O O O O aI O) ?_;refine H ?_;refine i8 O O O (aS 1 O O O O O O O O O O O aI O ⟨dj O,?_⟩);refine H ?_;refine i8 O O O (bi 1 O O O O O O O O O O O aI (by intro row hr;first|(simp at hr;subst hr;rfl)|(simp at hr;obtain⟨_,_,rfl⟩:=hr;rfl)|simp at hr) O O aK aK ⟨dj O,?_⟩);refine H ?_;have hr2:(bG s.st (bl.take (i+1))).map eS=Bl.map eS++[I b.x::(eR C++[.sl [[I 0]],.sl [eR F]])]:=by rw[hrow,List.map_append,<-hbS];rfl
   refine⟨i+1,hlt,J,O,?_,congrArg I hw,O,?_,O,O,trivial⟩
   .rw[hr2];rfl
   .rw[hr2];rfl
  .have hsd:b.side=false:=by simpa using hsd
   have hF1:=hst1 hsd;subst hF1;rw[hsd];refine ap e0 ?_;refine H ?_;refine bj [52,1003] [13,14,15] br ?_;refine H ?_;rw[hwh];refine nT O O O e5 O O ?_;refine H ?_;refine bI O O (cm O O O O O O O O O O aI O) ?_;refine H ?_;refine bI O O (fO O O O O O O O O O O aI O) ?_;refine H ?_;refine i8 O O O (aS 1 O O O O O O O O O O O aI O ⟨dj O,?_⟩);refine H ?_;refine i8 O O O (bi 1 O O O O O O O O O O O aI (by intro row hr;first|(simp at hr;subst hr;rfl)|(simp at hr;obtain⟨_,_,rfl⟩:=hr;rfl)|simp at hr) O O aK aK ⟨dj O,?_⟩);refine H ?_;have hr2:(bG s.st (bl.take (i+1))).map eS=Bl.map eS++[I b.x::(eR C++[.sl [[I 0]],.sl [eR F]])]:=by rw[hrow,List.map_append,<-hbS];rfl
   refine⟨i+1,hlt,J,O,?_,congrArg I hw,O,?_,O,O,trivial⟩
   .rw[hr2];rfl
   .rw[hr2];rfl
 .have hie:i=bl.length:=by have:=aF h;simp only[hml]at this;omega
  clear h;subst hie;rw[List.take_length];refine H ?_;exact pV (K:=fun o r=>K (({ reg:=s'.reg,own:=o }:St).putR d r)) [(1003,g3+bl.length,⟨136,7,(bG s.st bl).map eS,1⟩),(1102,k2,c2),(1103,k3,c3)] (.inl O) O O ⟨O,O,O,trivial⟩ (fun s1=>hK s1 _)
theorem A9 {d:Nat}(hd:d<=1100){w h:Int}(hh:0<=h/\h<=100000)(hw:1<=w/\w<=100000):hq (((2*h*w:Int):Rat)*((d:Rat)/1000000000)) 4:=by
 obtain⟨v1,v2⟩:=qK hh hw;generalize 2*h*w=v at *
 have e:(v:Rat)*((d:Rat)/1000000000)=((v*(d:Int):Int):Rat)/((1000000000:Int):Rat):=by
  rw[Rat.intCast_mul,show((d:Int):Rat)=(d:Rat) from O,show((1000000000:Int):Rat)=1000000000 from O];grind
 rw[e];have h1:v*(d:Int)<=20000000000*(d:Int):=Int.mul_le_mul_of_nonneg_right v2 J;have h2:0<=v*(d:Int):=Int.mul_nonneg v1 J;refine k5 Y ?_ Y;rw[show 65536^4=18446744073709551616 by decide];omega
theorem C6 {d:Nat}(hd:d<=1100){t:ST}(ok:StOk t):∀x∈qC d t,∃q,x=ofQ q/\hq q 4:=fun x hx=>by
 rcases List.mem_append.1 hx with hx|hx
 .obtain⟨h,hh,rfl⟩:=List.mem_map.1 hx;exact⟨_,O,A9 hd (ok.H0 h hh) ok.w⟩
 .rw[List.mem_singleton.1 hx];exact⟨0,O,(HQ.zero.mono (show 4<=4 by decide)).ok⟩
def rP (p:Rat)(W:List SR)(i:Nat):List SR:=(W.take i).map (n3 p)++W.drop i
theorem De {p:Rat}{W:List SR}{i:Nat}{x:SR}(hx:W[i]? = some x):(rP p W i)[i]? = some x:=by
 have hi:=(be hx).1;rw[rP,List.getElem?_append_right (by rw[List.length_map,List.length_take];omega),List.length_map,List.length_take,List.getElem?_drop,show i+(i-min i W.length)=i by omega,hx]
theorem Bj (p:Rat)(W:List SR)(i:Nat):(rP p W i).length=W.length:=by rw[rP,List.length_append,List.length_map,List.length_take,List.length_drop];omega
theorem uO {p:Rat}{W:List SR}{i:Nat}{x:SR}(hx:W[i]? = some x):(rP p W i).set i (n3 p x)=rP p W (i+1):=by
 have hi:=(be hx).1;have hl:((W.take i).map (n3 p)).length=i:=by rw[List.length_map,List.length_take];omega
 rw[rP,rP,List.set_append_right _ _ J,hl,Nat.sub_self,bk hx,List.map_append,List.append_assoc,tz hx];rfl
theorem yY {p:Rat}{W:List SR}{i:Nat}{x:SR}(hx:W[i]? = some x):(rP p W (i+1))[i]? = some (n3 p x):=by
 rw[<-uO hx,List.getElem?_set_self (by rw[Bj];exact(be hx).1)]
set_option maxRecDepth 20000 in
theorem ny (d:DKR)(hk:d.Bl)(hd:900<=d.d/\d.d<=1100)(lv:RR)(hlv:lv.sz 1000000):Ret Tryz.prog .shared 38 [.agg (c9 d),.agg (eR lv)] (.sl ((im d lv.val).map eS)):=by
 have hdn:=pP hd;have h2:=fa lv (by have:=hlv.1;omega) (by have:=hlv.2;omega);have hA:(bG d.s.st d.bl).length<=40:=by rw[bG,List.length_map];exact hk.m
 have hWl:(cy (j9 d) d.s.st).length<=40:=by rw[cy,List.length_map];exact hk.n
 rw[im];have hB:=fun K s' d' g2 h3 c2 c3 x tys ty pos af=>@sx K s' d' g2 h3 c2 c3 x tys ty pos af d hk;have hW:=fun K s' dd k1 k2 k3 c1 c2 c3 x y tys ty pos af=>@ub K s' dd k1 k2 k3 c1 c2 c3 x y tys ty pos af d.s (j9 d) J J hk.st hk.n;generalize lv.val=p at *
 generalize bG d.s.st d.bl=A at *
 generalize cy (j9 d) d.s.st=W at *
 generalize j9 d=dn at *
 obtain⟨s,den,bl,zn,gm,oh⟩:=d;simp only at *
 refine Ret.of_pwp layOk mixed Go.Proofs.Tryz.func38 O Y O O ?_
 (repeat ((fail_if_success (with_reducible refine aR 1 ?_));refine cu O ?_))
 refine ar (Ghost.move (k:=2) (k':=1102) (t:=2) O O O O) ?_;refine ar (Ghost.move (k:=3) (k':=1103) (t:=3) O O O O) ?_
 ((repeat ((fail_if_success (with_reducible refine aR 1 ?_));refine cu O ?_));refine aN 1 ?_)
 refine eg O ?_;refine aT ?_;refine bc O (hB _ _ _ _ _ _ _ _ _ _ _ _ O ⟨O,O,trivial⟩ fun s1 g=>?_);refine aQ ?_
 ((repeat ((fail_if_success (with_reducible refine aR 2 ?_));refine cu O ?_));refine aN 4 ?_)
 iterate 4 refine eg O ?_
 refine aT ?_;refine bc O (hW _ _ _ _ _ _ _ _ _ _ _ _ _ _ _ O (congrArg I hdn.symm) ⟨O,O,O,trivial⟩ fun s2 gw=>?_);refine aQ ?_;refine H ?_;refine bq [(2,.ptr 1102 1 0 0),(3,.ptr 1103 1 0 0),(5,.als 1003 g 0 (A.map eS).length),(6,.als 1005 gw 0 (W.map eS).length),(7,I ((0:Nat):Int))] [(1102,1,⟨31,14,[c9 ⟨s,den,bl,zn,gm,oh⟩],2⟩),(1103,1,⟨42,4,[eR lv],2⟩),(1003,g,⟨136,7,A.map eS,1⟩),(1005,gw,⟨136,7,W.map eS,1⟩)] ⟨O,O,O,O,O,O,O,O,O,trivial⟩ ?_;intro s3;refine am (fun i:Nat=>i<=W.length) (fun i=>[(2,.ptr 1102 1 0 0),(3,.ptr 1103 1 0 0),(5,.als 1003 (g+i) 0 ((A++(W.take i).map (n3 p)).map eS).length),(6,.als 1005 gw 0 (W.map eS).length),(7,I (i:Nat))])
  (fun i=>[(1102,1,⟨31,14,[c9 ⟨s,den,bl,zn,gm,oh⟩],2⟩),(1103,1,⟨42,4,[eR lv],2⟩),(1003,g+i,⟨136,7,(A++(W.take i).map (n3 p)).map eS,1⟩),(1005,gw,⟨136,7,(rP p W i).map eS,1⟩)]) (fun i=>W.length-i) 0 (Nat.zero_le _)
  ⟨O,O,by rw[List.take_zero,List.map_nil,List.append_nil];rfl,O,O,O,O,by rw[List.take_zero,List.map_nil,List.append_nil];rfl,by rw[rP,List.take_zero,List.map_nil,List.nil_append,List.drop_zero];rfl,trivial⟩ ?_
 intro i s4 hi;have hmw:((W.map eS).length:Int)=W.length:=ah;refine D ?_ ?_<;>intro h
 .have hlt:i<W.length:=by have:=ax h;omega
  clear h;obtain⟨x,hx⟩:=aG hlt;have r1:((rP p W i).map eS)[i]? = some (I x.x::(eR x.c++[.sl (x.k.S.map eN),.sl (x.k.M.map eR)])):=by rw[List.getElem?_map,De hx];rfl
  have r2:((rP p W (i+1)).map eS)[i]? = some (I x.x::(eR (ofQ p)++[.sl (x.k.S.map eN),.sl (x.k.M.map eR)])):=by rw[List.getElem?_map,yY hx];rfl
  have r3:((rP p W i).map eS).set i (I x.x::(eR (ofQ p)++[.sl (x.k.S.map eN),.sl (x.k.M.map eR)]))=(rP p W (i+1)).map eS:=by rw[<-uO hx,List.map_set];rfl
  have hrow:(A++(W.take (i+1)).map (n3 p)).map eS=(A++(W.take i).map (n3 p)).map eS++[I x.x::(eR (ofQ p)++[.sl (x.k.S.map eN),.sl (x.k.M.map eR)])]:=by rw[od hx,List.map_append];rfl
  have hw:=c_ i;have hll:((A++(W.take i).map (n3 p)).map eS).length<=80:=by rw[List.length_map,List.length_append,List.length_map,List.length_take];omega
  have hb:g+(i+1)=g+i+1:=O;have hlm:(W.map eS).length=W.length:=ah;generalize (A++(W.take i).map (n3 p)).map eS=R at *
  generalize (rP p W i).map eS=M at *
  generalize hM2:(rP p W (i+1)).map eS=M2 at *
  generalize ofQ p=Q at *
  refine G h2 ?_;refine H ?_;refine xX O O O O O O O O O ?_;rw[Int.toNat_natCast,Nat.zero_add i];refine H ?_;refine bR (bY (kd':=1) O O O r1 O O aI O O O O ?_);rw[show M.set i (jU (I x.x::(eR x.c++[.sl (x.k.S.map eN),.sl (x.k.M.map eR)])) (0+1) ((PV.agg (eR Q)).cells.map (dC 1)))=M2 from r3];refine H ?_;refine xX O O O O O O O O O ?_;rw[Int.toNat_natCast,Nat.zero_add i];refine bI O O (d9 O O O r2 O) ?_;refine H ?_;refine aE (aS 1 O O O O O O O O O O O aI O ?_);refine H ?_;refine aE (bi 1 O O O O O O O O O O O aI (by intro row hr;first|(simp at hr;subst hr;rfl)|simp at hr) O O aK aK ?_);refine H ?_;refine⟨i+1,hlt,J,O,O,?_,O,congrArg I hw,O,O,?_,by rw[hM2];rfl,trivial⟩
  .rw[hrow,hb];rfl
  .rw[hrow,hb];rfl
 have hie:i=W.length:=by have:=aF h;omega
 clear h;subst hie;rw[List.take_length]
 (repeat ((fail_if_success (with_reducible refine dl ?_));refine cu O ?_))
 refine ar (Ghost.takeD (k:=1003) (t:=4) O O O) ?_;exact bL
structure LeS (s:SR):Prop where
 c:s.c.le 1000000000
 S:s.k.S.length<=1000000
 M:s.k.M.length<=1000000
 m:∀m∈s.k.M,m.le 1000000000
theorem xq (k:CR)(h1:k.S.length<=1000000)(h2:k.M.length<=1000000)(h3:∀m∈k.M,m.le 1000000000):Ret Tryz.prog .shared 98 [.agg (eC k),.agg (eC k)] (.bool true):=by
 have e1:=yR k.S h1;have e2:=nB k.M h2 h3;refine Ret.of_pwp layOk mixed Go.Proofs.Tryz.func98 O Y O O ?_;refine ap e1 ?_;refine ap e2 ?_;exact fE
set_option maxRecDepth 20000 in
theorem pl (l:List SR)(hl:l.length<=1000000)(hs:∀s∈l,LeS s):Ret Tryz.prog .shared 36 [.sl (l.map eS),.sl (l.map eS)] (.bool true):=by
 have hml:(l.map eS).length=l.length:=ah;refine Ret.of_pwp layOk mixed Go.Proofs.Tryz.func36 O Y O O ?_;refine H ?_;rw[decide_eq_true (show(((l.map eS).length:Nat):Int)=((l.map eS).length:Nat) from O)];refine H ?_;refine am (fun i:Nat=>i<=l.length) (fun i=>[(0,.sl (l.map eS)),(1,.sl (l.map eS)),(5,I (i:Nat))]) (fun _=>[]) (fun i=>l.length-i) 0 (Nat.zero_le _) ⟨O,O,O,trivial⟩ ?_;intro i s hi;refine D ?_ ?_<;>intro h
 .have hlt:i<l.length:=by have:=ax h;simp only[hml]at this;omega
  clear h;obtain⟨x,hx⟩:=aG hlt;have ok:=hs x (aZ hx);have e1:=lB x.c ok.c;have e2:=xq x.k ok.S ok.M ok.m;have hw:=c_ i;obtain⟨xx,xc,xk⟩:=x;simp only at *
  refine bU 39 [17,18,19,20,21,22,23,24,25,26,27,28,29,30,31,32,33,34,35,36,37,38,39,40,41,42,43,44,45,46,47,48,49,50,51,52,53,54,55] ?_;refine aJ hx ?_;refine aJ hx ?_;refine H ?_;rw[decide_eq_true (show xx=xx from O)];refine aJ hx ?_;refine aJ hx ?_;refine ap e1 ?_;refine aJ hx ?_;refine aJ hx ?_;refine ap e2 ?_;refine H ?_;exact⟨i+1,hlt,J,O,O,congrArg I hw,trivial⟩
 .clear h;exact fE
theorem m_ {p:Rat}{n:Nat}(h:hq p n)(hn:n<=100000000):(ofQ p).le 1000000000:=by
 have:=gJ h;exact⟨Nat.le_trans this.1 J,Nat.le_trans this.2 J⟩
theorem yd {d:DKR}(hk:d.Bl):∀s∈bG d.s.st d.bl,LeS s:=fun s hs=>by
 rw[bG]at hs;obtain⟨b,hb,rfl⟩:=List.mem_map.1 hs;obtain⟨hin,hsz⟩:=hk.b b hb;have hbi:=iT hk.st b;have hht:=hin.ht;have z1:Zb (b.ht-cU d.s.st b):=aM J J;have z2:Zb 2:=aM Y Y;refine⟨m_ (p:=((b.ht-cU d.s.st b:Int):Rat)) HQ.int.ok Y,(by show 1<=1000000;decide),(by show 1<=1000000;decide),fun m hm=>?_⟩;have hm:m=ofQ (ee b):=by simpa [jq] using hm
 subst hm;rw[ee];split
 .exact m_ (@HQ.mul _ _ 13 4 hsz.v.hq (HQ.int (z:=2))).ok Y
 .exact m_ hsz.v.hq.ok Y
theorem CV {d:DKR}(hk:d.Bl)(hd:900<=d.d/\d.d<=1100){p:Rat}{n:Nat}(hp:hq p n)(hn:n<=100000000):∀s∈im d p,LeS s:=fun s hs=>by
 rw[im]at hs;rcases List.mem_append.1 hs with hs|hs
 .exact yd hk s hs
 .obtain⟨w,hw,rfl⟩:=List.mem_map.1 hs;rw[cy]at hw;obtain⟨t,ht,rfl⟩:=List.mem_map.1 hw;have ok:=hk.st t ht;have:=ok.n;have:=ok.h;refine⟨m_ hp hn,by show t.L.length<=1000000;omega,by show(qC (j9 d) t).length<=1000000;rw[Ad];omega,fun m hm=>?_⟩;obtain⟨q,rfl,hq⟩:=C6 (d:=j9 d) (by have:=pP hd;omega) ok m hm;exact m_ hq Y
set_option maxRecDepth 20000 in
theorem qV (d:DKR)(hd:d.Ok)(hk:kX d=0->d.Bl):Ret Tryz.prog .shared 34 [.agg (c9 d)] (.tup [.sl ((if kX d=0 then bG d.s.st d.bl else []).map eS),I (kX d)]):=by
 have h1:=fe d hd;by_cases hE:kX d=0
 .have h2:=mH d (hk hE);rw[if_pos hE,hE];rw[hE]at h1;refine Ret.of_pwp layOk mixed Go.Proofs.Tryz.func34 O Y O O ?_;refine ap h1 ?_;refine G h2 ?_;exact bL
 .rw[if_neg hE]
  suffices hz:Ret Tryz.prog .shared 34 [.agg (c9 d)] (.tup [.nil,I (kX d)]) from hz.weak (WeakL.refl _) (WeakL.tup (.cons .nil (WeakL.refl _)))
  generalize kX d=e at *
  refine Ret.of_pwp layOk mixed Go.Proofs.Tryz.func34 O Y O O ?_;refine ap h1 ?_;refine D ?_ ?_<;>intro h
  .clear h;exact bL
  .simp at h;exact absurd h hE
set_option maxRecDepth 20000 in
theorem oa (d:DKR)(hd:d.Ok)(lv:RR){p:Rat}(hs:kX d=0->Ret Tryz.prog .shared 97 [.agg (c9 d),.agg (eR lv)] (.sl ((im d p).map eS))):Ret Tryz.prog .shared 35 [.agg (c9 d),.agg (eR lv)] (.tup [.sl ((if kX d=0 then im d p else []).map eS),I (kX d)]):=by
 have h1:=fe d hd;by_cases hE:kX d=0
 .have h2:=hs hE;rw[if_pos hE,hE];rw[hE]at h1;refine Ret.of_pwp layOk mixed Go.Proofs.Tryz.func35 O Y O O ?_;refine ap h1 ?_;refine G h2 ?_;exact bL
 .rw[if_neg hE]
  suffices hz:Ret Tryz.prog .shared 35 [.agg (c9 d),.agg (eR lv)] (.tup [.nil,I (kX d)]) from hz.weak (WeakL.refl _) (WeakL.tup (.cons .nil (WeakL.refl _)))
  generalize kX d=e at *
  refine Ret.of_pwp layOk mixed Go.Proofs.Tryz.func35 O Y O O ?_;refine ap h1 ?_;refine D ?_ ?_<;>intro h
  .clear h;exact bL
  .simp at h;exact absurd h hE
theorem Ep {d:DKR}(hd:d.Ok)(h:kX d=0):d.Bl/\(900<=d.d/\d.d<=1100)/\jA d.s d.d=0:=by
 rw[kX]at h;split at h
 .rename_i h1;split at h
  .split at h
   .rename_i h2 h3;have hE:cE d.s=0:=by rw[jA]at h1;split at h1<;>omega
    obtain⟨a,b⟩:=lG hE;rw[mF]at h3;split at h3
    .omega
    .refine⟨⟨a,b,fun x hx=>?_,J⟩,?_,h1⟩
     .obtain⟨j,hj⟩:=List.mem_iff_getElem?.1 hx;exact⟨tm (iU h3 j x hj),hd.st x hx⟩
     .rw[jA,if_pos hE]at h1;split at h1
      .rename_i h4;exact cS h4
      .omega
   .contradiction
  .contradiction
 .contradiction
set_option maxRecDepth 20000 in
theorem supports_law (d:DKR)(hl:d.Len)(lv:RR):Ret Tryz.prog .shared 7 [.agg (c9 d),.agg (eR lv)] (.bool true):=by
 have a:=jp;have s:=vv d;have f:Ret Tryz.prog .shared 20 [.agg (eR lv),I (3:Nat)] (.bool (DA lv 3)):=nD lv 3 Y;cases hS:DD d with
 |false =>
  rw[hS]at s;refine Ret.of_pwp layOk mixed Go.Proofs.Tryz.func7 O Y O O ?_;refine ap a ?_;refine ap s ?_;exact fE
 |true =>
 rw[hS]at s;cases hF:DA lv 3 with
 |false =>
  rw[hF]at f;refine Ret.of_pwp layOk mixed Go.Proofs.Tryz.func7 O Y O O ?_;refine ap a ?_;refine ap s ?_;refine ap f ?_;exact fE
 |true =>
 rw[hF]at f;have hlv:lv.sz 3:=by
  simp only[DA,Bool.and_eq_true,decide_eq_true_eq]at hF;exact hF
 have sm:=CJ hS;have ok:=sm.ok hl;have c:=oB d sm;have r:=l0 d ok;have hbl:=fun h=>Ep ok h;have p1:=qV d ok fun h=>(hbl h).1;have p2:=oa d ok lv (p:=lv.val) fun h=>ji d (hbl h).1 (hbl h).2.1 (hbl h).2.2 hl.s lv (hv:=hlv.v) Y;by_cases hE:kX d=0
 .obtain⟨b1,b2,b3⟩:=hbl hE;have q1:=sy d b1;have q2:=ny d b1 b2 lv (Az hlv Y);have m1:=pl (bG d.s.st d.bl) (by rw[bG,List.length_map];exact Nat.le_trans b1.m Y) (yd b1);have m2:=pl (im d lv.val) (by rw[im,List.length_append,bG,List.length_map,List.length_map,cy,List.length_map];have:=b1.m;have:=b1.n;omega) (CV b1 b2 hlv.v.hq.ok Y);rw[hE]at r;rw[if_pos hE,hE]at p1 p2;generalize bG d.s.st d.bl=A at *
  generalize im d lv.val=B at *
  clear hbl;refine Ret.of_pwp layOk mixed Go.Proofs.Tryz.func7 O Y O O ?_;refine ap a ?_;refine ap s ?_;refine ap f ?_;refine G c ?_;refine G p1 ?_;refine H ?_;refine bj [] [] br ?_;refine G c ?_;refine G p2 ?_;refine ap r ?_;refine G q1 ?_;refine ap m1 ?_;refine G q2 ?_;refine ap m2 ?_;exact fE
 .rw[if_neg hE]at p1 p2;generalize kX d=e at *
  clear hbl;refine Ret.of_pwp layOk mixed Go.Proofs.Tryz.func7 O Y O O ?_;refine ap a ?_;refine ap s ?_;refine ap f ?_;refine G c ?_;refine G p1 ?_;refine H ?_;refine bj [] [] br ?_;refine G c ?_;refine G p2 ?_;refine ap r ?_;refine H ?_;rw[decide_eq_false hE];refine H ?_;rw[decide_eq_true (show e=e from O)];refine H ?_;rw[decide_eq_true (show e=e from O)];exact fE
end Go.Pv
