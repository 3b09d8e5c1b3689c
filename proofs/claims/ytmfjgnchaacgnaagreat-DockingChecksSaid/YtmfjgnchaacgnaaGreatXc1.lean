/- Texts of one hand, gathered: DkH, DkI, DkT. -/
import Derived.Test.YtmfjgnchaacgnaaGreatBa5
set_option maxRecDepth 20000
set_option linter.unusedSectionVars false
set_option linter.unusedSimpArgs false
set_option linter.unusedVariables false
set_option linter.unnecessarySimpa false
set_option maxHeartbeats 2000000
namespace Go.Pv
attribute [local irreducible] PWP POps PQuiet PSem aG au ak am
open Go.Proofs
set_option maxRecDepth 20000 in
theorem lw (s:SHP)(x z:Int)(hx : -1000000<=x/\x<=1000000)(hst:∀t∈s.st,StOk t)(hn:s.st.length<=40):Ret Tryz.prog .shared 42 [.agg (eZ s),I x,I z] (.tup [I ((cG x z s.st).getD 0),.bool (cG x z s.st).isSome]):=by
 have hml:(s.st.map eT).length=s.st.length:=ah;have q1:IntKind.i64.wrap (2*x)=2*x:=wrap_i64 J J;generalize hR:cG x z s.st=R;obtain⟨nm,len,st,light,it⟩:=s;simp only at *
 refine Ret.of_pwp layOk mixed Go.Proofs.Tryz.func42 O Y O O ?_;refine H ?_;refine ao (fun i:Nat=>i<=st.length/\cG x z (st.drop i)=R) (fun i=>[(1,I x),(2,I z),(3,.ptr 3 1 0 0),(8,I (i:Nat))]) (fun _=>[(3,1,⟨27,9,[eZ ⟨nm,len,st,light,it⟩],2⟩)]) (fun i=>st.length-i) 0 ⟨Nat.zero_le _,by rw[List.drop_zero];exact hR⟩ ⟨O,O,O,O,O,trivial⟩ ?_;rintro i s ⟨hi,hall⟩;refine H ?_;rw[hml];refine a_ O ?_ ?_<;>intro h
 .have hlt:i<st.length:=by have:=ax h;omega
  clear h;obtain⟨t,ht⟩:=aH hlt;have ok:=hst t (bb ht);obtain⟨⟨a1,a2⟩,⟨a3,a4⟩,⟨-,aL⟩,hLH,-,-,-⟩:=ok;rw[nQ ht]at hall;have q2:IntKind.i64.wrap (2*t.x)=2*t.x:=wrap_i64 J J;have q3:IntKind.i64.wrap (2*t.x-t.w)=2*t.x-t.w:=wrap_i64 J J;have q4:IntKind.i64.wrap (2*t.x+t.w)=2*t.x+t.w:=wrap_i64 J J;have hw:=dy i;have hmh:(t.H0.map eN).length=t.H0.length:=ah;refine aJ ht ?_;refine H ?_;rw[q1];refine H ?_;rw[q2];refine H ?_;rw[q3];refine zI O O O ?_ ?_<;>intro h
  .have d1:=ax h;clear h;rw[if_neg (by rw[lE,decide_eq_false J,Bool.false_and];decide)]at hall;refine H ?_;exact⟨i+1,⟨hlt,hall⟩,J,O,O,O,congrArg I hw,O,trivial⟩
  have d1:=aE h;clear h;refine H ?_;rw[q1];refine H ?_;rw[q2];refine H ?_;rw[q4];refine a_ O ?_ ?_<;>intro h
  .have d2:=ax h;clear h;rw[if_neg (by rw[lE,decide_eq_false (show ¬2*x<2*t.x+t.w by omega),Bool.and_false];decide)]at hall;refine H ?_;exact⟨i+1,⟨hlt,hall⟩,J,O,O,O,congrArg I hw,O,trivial⟩
  have d2:=aE h;clear h;rw[if_pos (by rw[lE,decide_eq_true J,decide_eq_true J];rfl)]at hall;refine H ?_;refine bE [(1,I x),(2,I z),(3,.ptr 3 1 0 0),(8,I (i:Nat)),(9,.ptr 9 ((s.own 9).1+1) 0 0),(10,I ((0:Nat):Int))] [(3,1,⟨27,9,[eZ ⟨nm,len,st,light,it⟩],2⟩),(9,(s.own 9).1+1,⟨130,4,[eT t],2⟩)] ⟨O,O,O,O,O,O,O,O,trivial⟩ ?_;generalize (s.own 9).1+1=g9;intro s1;refine ao (fun k:Nat=>k<=t.H0.length/\(match f7 t.L z (t.H0.drop k) k with|some n=>some n|none=>cG x z (st.drop (i+1)))=R) (fun k=>[(1,I x),(2,I z),(3,.ptr 3 1 0 0),(8,I (i:Nat)),(9,.ptr 9 g9 0 0),(10,I (k:Nat))]) (fun _=>[(3,1,⟨27,9,[eZ ⟨nm,len,st,light,it⟩],2⟩),(9,g9,⟨130,4,[eT t],2⟩)]) (fun k=>t.H0.length-k) 0 ⟨Nat.zero_le _,by rw[List.drop_zero];exact hall⟩ ⟨rfl,rfl,rfl,rfl,rfl,rfl,rfl,rfl,trivial⟩ ?_;clear hall;rintro k s2 ⟨hk,hall⟩;refine H ?_;rw[hmh];refine a_ O ?_ ?_<;>intro h
  .have hlk:k<t.H0.length:=by have:=ax h;omega
   clear h;obtain⟨y,hy⟩:=aH hlk;have hlL:k<t.L.length:=J;obtain⟨n,hn⟩:=aH hlL;have hgd:t.L.getD k 0=n:=by rw[List.getD_eq_getElem?_getD,hn];rfl
   have hwk:IntKind.i64.wrap (((k:Nat):Int)+1)=((k+1:Nat):Int):=by rw[wrap_i64 J J];omega
   rw[mw hy,hgd]at hall;refine aJ hy ?_;refine D ?_ ?_<;>intro h
   .have d3:z<y:=ax h;clear h;rw[if_pos d3]at hall;subst hall;refine aJ hn ?_;exact bO
   .have d3:¬z<y:=aE h;clear h;rw[if_neg d3]at hall;refine H ?_;exact⟨k+1,⟨hlk,hall⟩,J,O,O,O,O,O,congrArg I hwk,O,O,trivial⟩
  .have hke:k=t.H0.length:=by have:=aE h;omega
   clear h;subst hke;rw[List.drop_length,f7]at hall;refine H ?_;exact⟨i+1,⟨hlt,hall⟩,J,O,O,O,congrArg I hw,O,trivial⟩
 .have hge:i=st.length:=by have:=aE h;omega
  clear h;subst hge;rw[List.drop_length,cG]at hall;subst hall;exact bO
theorem oC (a b:Int)(h1 : -2000000<=a-b)(h2:a-b<=2000000):Ret Tryz.prog .shared 135 [I a,I b] (I (eQ a b)):=by
 have q1:IntKind.i64.wrap (a-b)=a-b:=wrap_i64 J J;have q2:IntKind.i64.wrap (b-a)=b-a:=wrap_i64 J J;refine Ret.of_pwp layOk mixed Go.Proofs.Tryz.func135 O Y O O ?_;refine H ?_;rw[q1,q2];exact jP O O O
set_option maxRecDepth 20000 in
theorem rQ (b:BKR)(hs:b.st.sz 12):Ret Tryz.prog .shared 134 [.agg (eBk b)] (I (if jy b=true then 0 else 2)):=by
 have o1:=bJ b.x (-1000000) 1000000;have o2:=bJ b.hf 1 10000;have o3:=bJ b.ht 0 100000;have o4:=bJ b.wd 1 20000;have o5:=bJ b.lim 0 1000000000;have o6:=tn b.st (hx:=hs.v) Y;have o7:=bJ b.z 1 100000;have hsg:=tu b.st.val;generalize hf:jy b=E;rw[jy,yy]at hf;have hp:decide (0<b.st.val)=!decide (sgn b.st.val<=0):=by
  by_cases h:sgn b.st.val<=0
  .rw[decide_eq_true h,decide_eq_false (fun g=>absurd g (Rat.not_lt.2 (hsg.1 h)))];rfl
  .rw[decide_eq_false h,decide_eq_true (Rat.not_le.1 fun g=>h (hsg.2 g))];rfl
 rw[hp]at hf;clear hp hsg;have hz:ar b.z 1 100000=true->1<=b.z/\b.z<=100000:=fun h=>cQ h;obtain⟨x,z,hfw,ht,wd,st,lim,side⟩:=b;simp only at *
 generalize ar x (-1000000) 1000000=b1 at *
 generalize ar hfw 1 10000=b2 at *
 generalize ar ht 0 100000=b3 at *
 generalize ar wd 1 20000=b4 at *
 generalize ar lim 0 1000000000=b5 at *
 generalize ar z 1 100000=b7 at *
 generalize sgn st.val=sg at *
 refine Ret.of_pwp layOk mixed Go.Proofs.Tryz.func134 O Y O O ?_;refine ap o1 ?_;cases b1
 .subst hf;exact bi
 refine ap o2 ?_;cases b2
 .subst hf;exact bi
 refine ap o3 ?_;cases b3
 .subst hf;exact bi
 refine ap o4 ?_;cases b4
 .subst hf;exact bi
 refine ap o5 ?_;cases b5
 .subst hf;exact bi
 refine ap o6 ?_;refine H ?_;by_cases h6:sg<=0
 .rw[decide_eq_true h6]at hf ⊢;subst hf;exact bi
 rw[decide_eq_false h6]at hf ⊢;refine H ?_;cases side
 .by_cases h8:z=0
  .rw[show E=true by rw[<-hf];simp[h8]];subst h8;exact bi
  .rw[show E=false by rw[<-hf];simp[h8]];refine D ?_ ?_<;>intro h
   .clear h;exact bi
   .simp at h;exact absurd h h8
 .refine ap o7 ?_;cases b7
  .subst hf;exact bi
  have hz:=hz O;have q1:IntKind.i64.wrap (2*z)=2*z:=wrap_i64 J J;refine H ?_;rw[q1];by_cases h9:2*z<wd
  .rw[show E=false by rw[<-hf];simp;omega];rw[decide_eq_true h9];exact bi
  .rw[show E=true by rw[<-hf];simp;omega];rw[decide_eq_false h9];exact bi
set_option maxRecDepth 20000 in
theorem s8 (d:DKR)(hst:∀t∈d.s.st,StOk t)(h40:d.s.st.length<=40)(hz:d.zn.length<=20/\∀z∈d.zn,ZnIn z)(hb40:d.bl.length<=40)(i:Nat)(b:BKR)(hb:d.bl[i]? = some b)(hs:b.st.sz 12)(hpr:∀j c,j<i->d.bl[j]? = some c->BkIn c) :
  Ret Tryz.prog .shared 73 [.agg (eE d),I (i:Nat)] (I (fL d.s.st d.zn d.bl i b)):=by
 have r1:=rQ b hs;have hin:=fun h=>kV (b:=b) h;have hbt:=fun h:jy b=true=>lw d.s b.x b.z (kV h).x hst h40;have hmz:(d.zn.map fO).length=d.zn.length:=ah;generalize hf:fL d.s.st d.zn d.bl i b=E;rw[fL]at hf;obtain⟨s,den,bl,zn,gm,oh⟩:=d;simp only at *
 have hil:i<bl.length:=(bh hb).1;generalize jy b=b1 at *
 refine Ret.of_pwp layOk mixed Go.Proofs.Tryz.func73 O Y O O ?_;refine aJ hb ?_;refine ap r1 ?_;cases b1
 .subst hf;exact bi
 rw[if_pos O]at hf;have hin:=hin O;have hbt:=hbt O;obtain⟨⟨a1,a2⟩,⟨a3,a4⟩,-,⟨a5,a6⟩,⟨a7,a8⟩,-,-⟩:=hin;refine ap hbt ?_;cases hbo:cG b.x b.z s.st with
 |none =>
  rw[hbo,if_neg Y]at hf;subst hf;exact bi
 |some n =>
 rw[hbo,Option.isSome_some,if_pos O]at hf;have p1:IntKind.i64.wrap (b.x-b.hf)=b.x-b.hf:=wrap_i64 J J;have p2:IntKind.i64.wrap (b.x+b.hf)=b.x+b.hf:=wrap_i64 J J;have p3:IntKind.i64.wrap (2*b.z)=2*b.z:=wrap_i64 J J;have p4:IntKind.i64.wrap (2*b.z-b.wd)=2*b.z-b.wd:=wrap_i64 J J;refine H ?_;refine bE [(1,I (i:Nat)),(2,.ptr 2 1 0 0),(5,.ptr 5 1 0 0),(9,I ((0:Nat):Int))] [(2,1,⟨31,14,[eE ⟨s,den,bl,zn,gm,oh⟩],2⟩),(5,1,⟨108,11,[eBk b],2⟩)] ⟨O,O,O,O,O,O,trivial⟩ ?_;intro s0;refine ao (fun k:Nat=>k<=zn.length/\∀j u,j<k->zn[j]? = some u->fy b u=false) (fun k=>[(1,I (i:Nat)),(2,.ptr 2 1 0 0),(5,.ptr 5 1 0 0),(9,I (k:Nat))]) (fun _=>[(2,1,⟨31,14,[eE ⟨s,den,bl,zn,gm,oh⟩],2⟩),(5,1,⟨108,11,[eBk b],2⟩)]) (fun k=>zn.length-k) 0 ⟨Nat.zero_le _,fun j u hj=>absurd hj J⟩ ⟨O,O,O,O,O,O,trivial⟩ ?_;rintro k s1 ⟨hk,hall⟩;refine H ?_;rw[hmz];refine a_ O ?_ ?_<;>intro h
 .have hlt:k<zn.length:=by have:=ax h;omega
  clear h;obtain⟨z,hx⟩:=aH hlt;obtain⟨-,⟨z1,z2⟩,z3,z4⟩:=hz.2 z (bb hx);have p5:IntKind.i64.wrap (2*z.h)=2*z.h:=wrap_i64 J J;have hw:=dy k;have go:fy b z=false->∀j u,j<k+1->zn[j]? = some u->fy b u=false:=fun hb j u hj hu=>by
   rcases Nat.lt_or_ge j k with g|g
   .exact hall j u g hu
   .rw[show j=k by omega,hx]at hu;cases hu;exact hb
  refine aJ hx ?_;refine H ?_;rw[p1];refine zI O O O ?_ ?_<;>intro h
  rotate_left
  .have d1:=aE h;clear h;refine H ?_;exact⟨k+1,⟨hlt,go (by rw[fy,decide_eq_false d1,Bool.false_and,Bool.false_and])⟩,J,O,O,O,congrArg I hw,O,O,trivial⟩
  have d1:=ax h;clear h;refine H ?_;rw[p2];refine cV ?_ ?_<;>intro h
  rotate_left
  .have d2:=aE h;clear h;refine H ?_;exact⟨k+1,⟨hlt,go (by rw[fy,decide_eq_false d2,Bool.and_false,Bool.false_and])⟩,J,O,O,O,congrArg I hw,O,O,trivial⟩
  have d2:=ax h;clear h;refine H ?_;rw[p3];refine H ?_;rw[p4];refine H ?_;rw[p5];refine D ?_ ?_<;>intro h
  .have d3:2*b.z-b.wd<2*z.h:=ax h;clear h;rw[if_pos (l9 hx (by rw[fy,decide_eq_true d1,decide_eq_true d2,decide_eq_true d3];rfl))]at hf;subst hf;exact bi
  .have d3:¬2*b.z-b.wd<2*z.h:=aE h;clear h;refine H ?_;exact⟨k+1,⟨hlt,go (by rw[fy,decide_eq_false d3,Bool.and_false])⟩,J,O,O,O,congrArg I hw,O,O,trivial⟩
 have hge:k=zn.length:=by have:=aE h;omega
 clear h;subst hge;rw[nI hall,if_neg Y]at hf;clear hall;refine H ?_;refine ao (fun k:Nat=>k<=i/\∀j u,j<k->bl[j]? = some u->fN b u=false) (fun k=>[(1,I (i:Nat)),(2,.ptr 2 1 0 0),(5,.ptr 5 1 0 0),(11,I (k:Nat))]) (fun _=>[(2,1,⟨31,14,[eE ⟨s,den,bl,zn,gm,oh⟩],2⟩),(5,1,⟨108,11,[eBk b],2⟩)]) (fun k=>i-k) 0 ⟨Nat.zero_le _,fun j u hj=>absurd hj J⟩ ⟨O,O,O,O,O,O,trivial⟩ ?_;rintro k s3 ⟨hk,hall⟩;refine D ?_ ?_<;>intro h
 .have hlt:k<i:=by have:=ax h;omega
  clear h;obtain⟨c,hx⟩:=aH (show k<bl.length by omega);obtain⟨⟨c1,c2⟩,⟨c3,c4⟩,-,⟨c5,c6⟩,⟨c7,c8⟩,-,-⟩:=hpr k c hlt hx;have e1:=oC b.x c.x J J;have e2:=oC b.z c.z J J;have hdz : -2000000<=eQ b.z c.z/\eQ b.z c.z<=2000000:=by rw[eQ];split<;>omega
  have hbc:fN b c=(decide (eQ b.x c.x<b.hf+c.hf)&&decide (2*eQ b.z c.z<b.wd+c.wd)):=O;have q1:IntKind.i64.wrap (b.hf+c.hf)=b.hf+c.hf:=wrap_i64 J J;have q2:IntKind.i64.wrap (2*eQ b.z c.z)=2*eQ b.z c.z:=wrap_i64 J J;have q3:IntKind.i64.wrap (b.wd+c.wd)=b.wd+c.wd:=wrap_i64 J J;have hw:=dy k;have go:fN b c=false->∀j u,j<k+1->bl[j]? = some u->fN b u=false:=fun hb j u hj hu=>by
   rcases Nat.lt_or_ge j k with g|g
   .exact hall j u g hu
   .rw[show j=k by omega,hx]at hu;cases hu;exact hb
  generalize eQ b.x c.x=D1 at *
  generalize eQ b.z c.z=D2 at *
  refine aJ hx ?_;refine b8 25 [87,88,89,90,91,92,93,94,95,96,97,98,99,100,101,102,103,104,105,106,107,108,109,110,111] ?_;refine ap e1 ?_;refine H ?_;rw[q1];refine zI O O O ?_ ?_<;>intro h
  rotate_left
  .have d1:=aE h;clear h;refine H ?_;exact⟨k+1,⟨hlt,go (by rw[hbc,decide_eq_false d1,Bool.false_and])⟩,J,O,O,O,congrArg I hw,O,O,trivial⟩
  have d1:=ax h;clear h;refine ap e2 ?_;refine H ?_;rw[q2];refine H ?_;rw[q3];refine D ?_ ?_<;>intro h
  .have d2:2*D2<b.wd+c.wd:=ax h;clear h;rw[if_pos (l_ hlt hx (by rw[hbc,decide_eq_true d1,decide_eq_true d2];rfl))]at hf;subst hf;exact bi
  .have d2:¬2*D2<b.wd+c.wd:=aE h;clear h;refine H ?_;exact⟨k+1,⟨hlt,go (by rw[hbc,decide_eq_false d2,Bool.and_false])⟩,J,O,O,O,congrArg I hw,O,O,trivial⟩
 have hge:k=i:=by have:=aE h;omega
 clear h;subst hge;rw[i6 hall,if_neg Y]at hf;subst hf;exact bi
set_option maxRecDepth 20000 in
theorem rO (d:DKR)(hd:d.Ok):Ret Tryz.prog .shared 19 [.agg (eE d)] (I (xT d)):=by
 have h1:=ly d.s hd.len.s;have h2:=pJ d.d;have h4:=bJ d.gm (-100000) 100000;have h5:=bJ d.oh 0 1000000;have hmb:(d.bl.map eBk).length=d.bl.length:=ah;have hmz:(d.zn.map fO).length=d.zn.length:=ah;have hsz:=hd.st;have hlb:=hd.len.bl;have hlz:=hd.len.zn;generalize hf:xT d=E;rw[xT,lG]at hf;by_cases hE:cA d.s=0
 rotate_left
 .rw[if_neg hE,if_neg hE]at hf;obtain⟨s,den,bl,zn,gm,oh⟩:=d;simp only at *
  generalize cA s=e at *
  subst hf;refine Ret.of_pwp layOk mixed Go.Proofs.Tryz.func19 O Y O O ?_;refine ap h1 ?_;refine D ?_ ?_<;>intro h
  .clear h;exact bi
  .simp at h;exact absurd h hE
 obtain⟨hst,h40⟩:=nc hE;rw[hE]at h1;rw[if_pos hE]at hf;have hbr:=fun i b hb hpr hz hb40=>s8 d hst h40 hz hb40 i b hb (hsz b (bb hb)) hpr;clear hE;obtain⟨s,den,bl,zn,gm,oh⟩:=d;simp only at *
 refine Ret.of_pwp layOk mixed Go.Proofs.Tryz.func19 O Y O O ?_;refine ap h1 ?_;refine ap h2 ?_;cases hi:ar den 900 1100 with
 |false =>
  rw[hi]at hf;subst hf;exact bi
 |true =>
 rw[hi,if_pos O,if_pos O,dV]at hf;refine H ?_;rw[hmz];refine a_ O ?_ ?_<;>intro h
 .rw[if_pos (show 20<zn.length by have:=ax h;omega),if_neg Y]at hf;subst hf;exact bi
 have h20:¬20<zn.length:=by have:=aE h;omega
 clear h h1 h2;have hz0:eo zn (lJ zn)=0->dV zn=0:=fun h=>by rw[dV,if_neg h20];exact h
 rw[if_neg h20]at hf;refine H ?_;refine ao (ClearE zn (lJ zn)) (fun k=>[(1,.ptr 1 1 0 0),(5,I (k:Nat))]) (fun _=>[(1,1,⟨31,14,[eE ⟨s,den,bl,zn,gm,oh⟩],2⟩)]) (fun k=>zn.length-k) 0 .zero' ⟨O,O,O,trivial⟩ ?_;intro k s1 hk;have hkl:=hk.1;refine H ?_;rw[hmz];refine a_ O ?_ ?_<;>intro h
 .have hlt:k<zn.length:=by have:=ax h;omega
  clear h;obtain⟨z,hx⟩:=aH hlt;have n0:=jk z.nm;have o1:=bJ z.a (-1000000) 1000000;have o2:=bJ z.b (-1000000) 1000000;have o3:=bJ z.h 0 100000;have hw:=dy k;have hfl:∀e,lJ zn k z=e->e≠0->E=e:=fun e h he=>by
   rw[hk.found hx h he,if_neg he]at hf;exact hf.symm
  have hsu:=fun(h:lJ zn k z=0)=>hk.succ hx h;rw[lJ]at hfl hsu;generalize bP z.nm=b0 at *
  generalize ar z.a (-1000000) 1000000=b2 at *
  generalize ar z.b (-1000000) 1000000=b3 at *
  generalize ar z.h 0 100000=b4 at *
  clear hk hf;refine aJ hx ?_;refine ap n0 ?_;cases b0
  .have:=hfl 4 (by rfl) Y;subst this;exact bi
  refine H ?_;refine bE [(1,.ptr 1 1 0 0),(5,I (k:Nat)),(6,.ptr 6 ((s1.own 6).1+1) 0 0),(7,I ((0:Nat):Int))] [(1,1,⟨31,14,[eE ⟨s,den,bl,zn,gm,oh⟩],2⟩),(6,(s1.own 6).1+1,⟨132,4,[fO z],2⟩)] ⟨O,O,O,O,O,O,trivial⟩ ?_;generalize (s1.own 6).1+1=g6;intro s2;refine ao (fun j:Nat=>j<=k/\∀i u,i<j->zn[i]? = some u->u.nm≠z.nm) (fun j=>[(1,.ptr 1 1 0 0),(5,I (k:Nat)),(6,.ptr 6 g6 0 0),(7,I (j:Nat))]) (fun _=>[(1,1,⟨31,14,[eE ⟨s,den,bl,zn,gm,oh⟩],2⟩),(6,g6,⟨132,4,[fO z],2⟩)]) (fun j=>k-j) 0 ⟨Nat.zero_le _,fun i u hi=>absurd hi J⟩ ⟨O,O,O,O,O,O,trivial⟩ ?_;rintro j s3 ⟨hj,hall⟩;refine D ?_ ?_<;>intro h
  .have hlj:j<k:=by have:=ax h;omega
   clear h;obtain⟨u,hu⟩:=aH (show j<zn.length by omega);have hwj:IntKind.i64.wrap (((j:Nat):Int)+1)=((j+1:Nat):Int):=by rw[wrap_i64 J J];omega
   refine b8 9 [47,48,49,50,51,52,53,54,55] ?_;refine aJ hu ?_;refine D ?_ ?_<;>intro h
   .have he:u.nm=z.nm:=by simpa using h
    clear h;have hA:(zn.take k).any (fun y=>decide (y.nm=z.nm))=true:=l_ hlj hu (by rw[he];simp);rw[hA]at hfl;have:=hfl 5 (by rfl) Y;subst this;exact bi
   .have he:u.nm≠z.nm:=by simpa using h
    clear h;refine H ?_;refine⟨j+1,⟨hlj,fun i v hi hv=>?_⟩,J,O,O,O,congrArg I hwj,O,O,trivial⟩;rcases Nat.lt_or_ge i j with g|g
    .exact hall i v g hv
    .rw[show i=j by omega,hu]at hv;cases hv;exact he
  have hje:j=k:=by have:=aE h;omega
  clear h;subst hje;have hA:(zn.take j).any (fun y=>decide (y.nm=z.nm))=false:=by
   rw[List.any_eq_false];intro v hv;obtain⟨i,hi⟩:=List.mem_iff_getElem?.1 hv;have hij:i<j:=by have:=(bh hi).1;rw[List.length_take]at this;omega
   rw[List.getElem?_take_of_lt hij]at hi;simpa using hall i v hij hi
  rw[hA]at hfl hsu;refine ap o1 ?_;cases b2
  .have:=hfl 2 (by rfl) Y;subst this;exact bi
  refine ap o2 ?_;cases b3
  .have:=hfl 2 (by rfl) Y;subst this;exact bi
  refine cV ?_ ?_<;>intro h
  .have hab:=ax h;clear h;have:=hfl 2 aK Y;subst this;exact bi
  have hab:=aE h;clear h;refine ap o3 ?_;cases b4
  .have:=hfl 2 ah Y;subst this;exact bi
  refine H ?_;exact⟨j+1,hsu aK,J,O,congrArg I hw,O,trivial⟩
 have hge:¬k<zn.length:=by have:=aE h;omega
 clear h;have hz:dV zn=0:=hz0 (hk.none hge);have hzi:=ss hz;rw[hk.none hge,if_pos O,nP]at hf;clear hz0 hz hk;refine H ?_;rw[hmb];refine a_ O ?_ ?_<;>intro h
 .rw[if_pos (show 40<bl.length by have:=ax h;omega),if_neg Y]at hf;subst hf;exact bi
 have hb40:¬40<bl.length:=by have:=aE h;omega
 clear h;rw[if_neg hb40]at hf;refine H ?_;refine ao (ClearE bl (fL s.st zn bl)) (fun k=>[(1,.ptr 1 1 0 0),(8,I (k:Nat))]) (fun _=>[(1,1,⟨31,14,[eE ⟨s,den,bl,zn,gm,oh⟩],2⟩)]) (fun k=>bl.length-k) 0 .zero' ⟨O,O,O,trivial⟩ ?_;clear hkl;intro k s1 hk;have hkl:=hk.1;refine H ?_;rw[hmb];refine a_ O ?_ ?_<;>intro h
 .have hlt:k<bl.length:=by have:=ax h;omega
  clear h;obtain⟨b,hx⟩:=aH hlt;have c1:=hbr k b hx (fun j c hj hc=>xA (hk.2 j c hj hc)) hzi J;have hw:=dy k;have hfl:=fun e (h:fL s.st zn bl k b=e) (he:e≠0)=>hk.found hx h he;have hsu:=fun(h:fL s.st zn bl k b=0)=>hk.succ hx h;generalize fL s.st zn bl k b=e at *
  refine ap c1 ?_;refine D ?_ ?_<;>intro h
  .have he:e≠0:=by simpa using h
   clear h;have:=hfl e O he;rw[this,if_neg he]at hf;subst hf;exact bi
  .have he:e=0:=by simpa using h
   clear h;refine H ?_;exact⟨k+1,hsu he,J,O,congrArg I hw,O,trivial⟩
 have hge:¬k<bl.length:=by have:=aE h;omega
 clear h;rw[hk.none hge,if_pos O]at hf;refine ap h4 ?_;cases h4b:ar gm (-100000) 100000 with
 |false =>
  rw[h4b]at hf;subst hf;exact bi
 |true =>
 rw[h4b]at hf;refine ap h5 ?_;cases h5b:ar oh 0 1000000;all_goals
  rw[h5b]at hf;subst hf;exact bi
theorem vj (d:DKR)(h:SmD d):Ret Tryz.prog .shared 18 [.agg (eE d)] (.agg (eE d)) :=
 qx d (Nat.le_trans h.st Y) (Nat.le_trans h.it Y) (Nat.le_trans h.bl Y) (Nat.le_trans h.zn Y) (fun t ht=>⟨Nat.le_trans (h.L t ht).1 Y,Nat.le_trans (h.L t ht).2 Y⟩) (fun b hb=>Cg (h.b b hb) Y)
set_option maxRecDepth 20000 in
theorem checks4_law (d:DKR)(hl:d.Len):Ret Tryz.prog .shared 3 [.agg (eE d)] (.bool true):=by
 have a:=ma;have s:=Bn d;cases hS:Dj d with
 |false =>
  rw[hS]at s;refine Ret.of_pwp layOk mixed Go.Proofs.Tryz.func3 O Y O O ?_;refine ap a ?_;refine b8 11 [5,6,7,8,9,10,11,12,13,14,15] ?_;refine ap s ?_;exact gx
 |true =>
  rw[hS]at s;have sm:=Eu hS;have c:=vj d sm;have p:=i_ d (sm.ok hl);have r:=rO d (sm.ok hl);generalize xT d=e at *
  refine Ret.of_pwp layOk mixed Go.Proofs.Tryz.func3 O Y O O ?_;refine ap a ?_;refine b8 11 [5,6,7,8,9,10,11,12,13,14,15] ?_;refine ap s ?_;refine G c ?_;refine ap p ?_;refine ap r ?_;refine H ?_;exact bS O O ah
end Go.Pv
