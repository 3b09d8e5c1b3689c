/- Texts of one hand, gathered: DkG, DkH, DkD, DkJ, DkN, DkV, DkO, DkP, DkQ, RaA, FwKa, DkB, DkK, PvLc, DkL, DkM, DkR, DkI, DkS, DkT, DkW, DlH, DkX, DlI, DkY, DkZ, DlC, DlB, DlA, DlFa, DlJ, DmD, DmH, DlM, DlD, DlE, DlG. -/
import Derived.Test.YtmfjgnchaacgnaaGreatBa4
set_option maxRecDepth 20000
set_option linter.unusedSectionVars false
set_option linter.unusedSimpArgs false
set_option linter.unusedVariables false
set_option linter.unnecessarySimpa false
set_option maxHeartbeats 2000000
namespace Go.Pv
attribute [local irreducible] PWP POps PQuiet PSem aF aw ai ak
open Go.Proofs
structure BkIn (b:BKR):Prop where
 x : -1000000<=b.x/\b.x<=1000000
 hf:1<=b.hf/\b.hf<=10000
 ht:0<=b.ht/\b.ht<=100000
 wd:1<=b.wd/\b.wd<=20000
 z:0<=b.z/\b.z<=100000
 lim:0<=b.lim/\b.lim<=1000000000
 st:0<b.st.val
theorem s8 {b:BKR}(h:qp b=true):BkIn b:=by
 rw[qp,Kz]at h;simp only[ca,decide_eq_true_eq]at h;obtain⟨⟨⟨⟨⟨⟨h1,h2⟩,h3⟩,h4⟩,h5⟩,h6⟩,h7⟩:=h;refine⟨ej h1,ej h2,ej h3,ej h4,?_,ej h5,h6⟩;split at h7
 .simp only[ca]at h7;have:=ej h7.1;omega
 .have:=aB h7;omega
structure ZnIn (z:ZNR):Prop where
 a : -1000000<=z.a/\z.a<=1000000
 b : -1000000<=z.b/\z.b<=1000000
 h:0<=z.h/\z.h<=100000
theorem QV {l:List ZNR}{i:Nat}{z:ZNR}(h:ua l i z=0):ZnIn z:=by
 rw[ua]at h;split at h
 .split at h
  .omega
  .split at h
   .rename_i h2;simp only[ca]at h2;exact⟨ej h2.1.1.1,ej h2.1.1.2,ej h2.2⟩
   .omega
 .omega
theorem DC {l:List ZNR}(h:jg l=0):l.length<=20/\∀z∈l,ZnIn z:=by
 rw[jg]at h;split at h
 .omega
 .refine⟨J,fun z hz=>?_⟩;obtain⟨j,hj⟩:=iA.1 hz;exact QV (kr h j z hj)
theorem pD {α:Type}{p:α->Bool}{l:List α}{n:Nat}(h:∀(j:Nat) x,j<n->l[j]? = some x->p x=false):(l.take n).any p=false:=by
 rw[Au];intro x hx;obtain⟨j,hj⟩:=iA.1 hx;have hjn:j<n:=by have:=(bV hj).1;rw[bw]at this;omega
 rw[un hjn]at hj;rw[h j x hjn hj];decide
theorem ye {α:Type}{p:α->Bool}{l:List α}(h:∀(j:Nat) x,j<l.length->l[j]? = some x->p x=false):l.any p=false:=by
 have:=pD h;rwa [bb]at this
theorem vz {α:Type}{p:α->Bool}{l:List α}{k:Nat}{x:α}(hx:l[k]? = some x)(h:p x=true):l.any p=true:=List.any_eq_true.2 ⟨x,bm hx,h⟩
theorem vA {α:Type}{p:α->Bool}{l:List α}{n k:Nat}{x:α}(hk:k<n)(hx:l[k]? = some x)(h:p x=true):(l.take n).any p=true:=vz (k:=k) (by rw[un hk];exact hx) h
theorem Hg (d:DKR)(hst:∀t∈d.s.st,StOk t)(h40:d.s.st.length<=40)(hz:d.zn.length<=20/\∀z∈d.zn,ZnIn z)(hb40:d.bl.length<=40)(i:Nat)(b:BKR)(hb:d.bl[i]? = some b)(hs:b.st.sz 12)(hpr:∀j c,j<i->d.bl[j]? = some c->BkIn c) :
  aO 69 [.agg (cn d),I (i:Nat)] (I (lu d.s.st d.zn d.bl i b)):=by
 have r1:=EB b hs;have hin:=fun h=>s8 (b:=b) h;have hbt:=fun h:qp b=true=>pE d.s b.x b.z (s8 h).x hst h40;have hmz:(d.zn.map lA).length=d.zn.length:=ao;generalize hf:lu d.s.st d.zn d.bl i b=E;rw[lu]at hf;obtain⟨s,den,bl,zn,gm,oh⟩:=d;simp only at *
 have hil:i<bl.length:=(bV hb).1;generalize qp b=b1 at *
 refine ax Proofs.Tryz.func69 ?_;refine aQ hb ?_;refine aj r1 ?_;cases b1
 .subst hf;exact co
 rw[if_pos O]at hf;have hin:=hin O;have hbt:=hbt O;obtain⟨⟨a1,a2⟩,⟨a3,a4⟩,-,⟨a5,a6⟩,⟨a7,a8⟩,-,-⟩:=hin;refine aj hbt ?_;cases hbo:gc b.x b.z s.st with
 |none =>
  rw[hbo,if_neg Y]at hf;subst hf;exact co
 |some n =>
 rw[hbo,Option.isSome_some,if_pos O]at hf;have p1:IntKind.i64.wrap (b.x-b.hf)=b.x-b.hf:=wrap_i64 J J;have p2:IntKind.i64.wrap (b.x+b.hf)=b.x+b.hf:=wrap_i64 J J;have p3:IntKind.i64.wrap (2*b.z)=2*b.z:=wrap_i64 J J;have p4:IntKind.i64.wrap (2*b.z-b.wd)=2*b.z-b.wd:=wrap_i64 J J;refine H ?_;rw[hmz];refine aT [(1,I (i:Nat)),(2,.ptr 2 1 0 0),(5,.ptr 5 1 0 0),(33,.sl (zn.map lA)),(34,I zn.length),(35,I ((0:Nat):Int))] [(2,1,⟨31,14,[cn ⟨s,den,bl,zn,gm,oh⟩],2⟩),(5,1,⟨108,11,[eBk b],2⟩)] ⟨O,O,O,O,O,O,O,O,trivial⟩ ?_;intro s0;refine ah (fun k:Nat=>k<=zn.length/\∀j u,j<k->zn[j]? = some u->kS b u=false) (fun k=>[(1,I (i:Nat)),(2,.ptr 2 1 0 0),(5,.ptr 5 1 0 0),(33,.sl (zn.map lA)),(34,I zn.length),(35,I (k:Nat))]) (fun _=>[(2,1,⟨31,14,[cn ⟨s,den,bl,zn,gm,oh⟩],2⟩),(5,1,⟨108,11,[eBk b],2⟩)]) (fun k=>zn.length-k) 0 ⟨aP _,fun j u hj=>absurd hj J⟩ ⟨O,O,O,O,O,O,O,O,trivial⟩ ?_;rintro k s1 ⟨hk,hall⟩;refine D ?_ ?_<;>intro h
 .have hlt:k<zn.length:=by have:=aB h;omega
  clear h;obtain⟨z,hx⟩:=aC hlt;obtain⟨-,⟨z1,z2⟩,z3,z4⟩:=hz.2 z (bm hx);have p5:IntKind.i64.wrap (2*z.h)=2*z.h:=wrap_i64 J J;have hw:=fg k;have go:kS b z=false->∀j u,j<k+1->zn[j]? = some u->kS b u=false:=fun hb j u hj hu=>by
   rcases bG j k with g|g
   .exact hall j u g hu
   .rw[show j=k by omega,hx]at hu;cases hu;exact hb
  refine aQ hx ?_;refine H ?_;rw[p1];refine LP O O O ?_ ?_<;>intro h
  rotate_left
  .have d1:=aE h;clear h;refine H ?_;exact⟨k+1,⟨hlt,go (by rw[kS,decide_eq_false d1,eP,eP])⟩,J,O,O,O,O,O,congrArg I hw,O,O,trivial⟩
  have d1:=aB h;clear h;refine H ?_;rw[p2];refine eW ?_ ?_<;>intro h
  rotate_left
  .have d2:=aE h;clear h;refine H ?_;exact⟨k+1,⟨hlt,go (by rw[kS,decide_eq_false d2,iU,eP])⟩,J,O,O,O,O,O,congrArg I hw,O,O,trivial⟩
  have d2:=aB h;clear h;refine H ?_;rw[p3];refine H ?_;rw[p4];refine H ?_;rw[p5];refine D ?_ ?_<;>intro h
  .have d3:2*b.z-b.wd<2*z.h:=aB h;clear h;rw[if_pos (vz hx (by rw[kS,decide_eq_true d1,decide_eq_true d2,decide_eq_true d3];rfl))]at hf;subst hf;exact co
  .have d3:¬2*b.z-b.wd<2*z.h:=aE h;clear h;refine H ?_;exact⟨k+1,⟨hlt,go (by rw[kS,decide_eq_false d3,iU])⟩,J,O,O,O,O,O,congrArg I hw,O,O,trivial⟩
 have hge:k=zn.length:=by have:=aE h;omega
 clear h;subst hge;rw[ye hall,if_neg Y]at hf;clear hall;have hmt:((bl.take i).map eBk).length=i:=by rw[aR,bw];omega
 refine H ?_;refine cf O O (sS (l:=bl) (enc:=eBk) (n:=((i:Nat):Int)) O O O O O J J (fun _=>rfl)) ?_;rw[br];refine H ?_;rw[hmt];refine aT [(2,.ptr 2 1 0 0),(5,.ptr 5 1 0 0),(73,.sl ((bl.take i).map eBk)),(74,I i),(75,I ((0:Nat):Int))] [(2,1,⟨31,14,[cn ⟨s,den,bl,zn,gm,oh⟩],2⟩),(5,1,⟨108,11,[eBk b],2⟩)] ⟨O,O,O,O,O,O,O,trivial⟩ ?_;intro s2;refine ah (fun k:Nat=>k<=i/\∀j u,j<k->bl[j]? = some u->ly b u=false) (fun k=>[(2,.ptr 2 1 0 0),(5,.ptr 5 1 0 0),(73,.sl ((bl.take i).map eBk)),(74,I i),(75,I (k:Nat))]) (fun _=>[(2,1,⟨31,14,[cn ⟨s,den,bl,zn,gm,oh⟩],2⟩),(5,1,⟨108,11,[eBk b],2⟩)]) (fun k=>i-k) 0 ⟨aP _,fun j u hj=>absurd hj J⟩ ⟨O,O,O,O,O,O,O,trivial⟩ ?_;rintro k s3 ⟨hk,hall⟩;refine D ?_ ?_<;>intro h
 .have hlt:k<i:=by have:=aB h;omega
  clear h;obtain⟨c,hx⟩:=aC (show k<bl.length by omega);have hxt:(bl.take i)[k]? = some c:=by rw[un hlt];exact hx
  obtain⟨⟨c1,c2⟩,⟨c3,c4⟩,-,⟨c5,c6⟩,⟨c7,c8⟩,-,-⟩:=hpr k c hlt hx;have e1:=BS b.x c.x J J;have e2:=BS b.z c.z J J;have hdz : -2000000<=j6 b.z c.z/\j6 b.z c.z<=2000000:=by rw[j6];split<;>omega
  have hbc:ly b c=(decide (j6 b.x c.x<b.hf+c.hf)&&decide (2*j6 b.z c.z<b.wd+c.wd)):=O;have q1:IntKind.i64.wrap (b.hf+c.hf)=b.hf+c.hf:=wrap_i64 J J;have q2:IntKind.i64.wrap (2*j6 b.z c.z)=2*j6 b.z c.z:=wrap_i64 J J;have q3:IntKind.i64.wrap (b.wd+c.wd)=b.wd+c.wd:=wrap_i64 J J;have hw:=fg k;have go:ly b c=false->∀j u,j<k+1->bl[j]? = some u->ly b u=false:=fun hb j u hj hu=>by
   rcases bG j k with g|g
   .exact hall j u g hu
   .rw[show j=k by omega,hx]at hu;cases hu;exact hb
  generalize j6 b.x c.x=D1,j6 b.z c.z=D2 at *
  refine aQ hxt ?_;refine cO 25 [79,80,81,82,83,84,85,86,87,88,89,90,91,92,93,94,95,96,97,98,99,100,101,102,103] ?_;refine aj e1 ?_;refine H ?_;rw[q1];refine LP O O O ?_ ?_<;>intro h
  rotate_left
  .have d1:=aE h;clear h;refine H ?_;exact⟨k+1,⟨hlt,go (by rw[hbc,decide_eq_false d1,eP])⟩,J,O,O,O,O,congrArg I hw,O,O,trivial⟩
  have d1:=aB h;clear h;refine aj e2 ?_;refine H ?_;rw[q2];refine H ?_;rw[q3];refine D ?_ ?_<;>intro h
  .have d2:2*D2<b.wd+c.wd:=aB h;clear h;rw[if_pos (vA hlt hx (by rw[hbc,decide_eq_true d1,decide_eq_true d2];rfl))]at hf;subst hf;exact co
  .have d2:¬2*D2<b.wd+c.wd:=aE h;clear h;refine H ?_;exact⟨k+1,⟨hlt,go (by rw[hbc,decide_eq_false d2,iU])⟩,J,O,O,O,O,congrArg I hw,O,O,trivial⟩
 have hge:k=i:=by have:=aE h;omega
 clear h;subst hge;rw[pD hall,if_neg Y]at hf;subst hf;exact co
theorem zy {st:List ST}{zn:List ZNR}{l:List BKR}{j:Nat}{c:BKR}(h:lu st zn l j c=0):BkIn c:=by
 rw[lu]at h;split at h
 .rename_i h1;exact s8 h1
 .omega
structure DKR.Ok (d:DKR):Prop where
 len:d.Len
 st:∀b∈d.bl,b.st.sz 12
theorem Bh {s:SHP}(h:gz s=0):(∀t∈s.st,StOk t)/\s.st.length<=40:=by
 have ok:=mV h;refine⟨fun t ht=>?_,ok.len⟩;obtain⟨i,hi⟩:=iA.1 ht;exact QJ (ok.st i t hi)
theorem jq (d:DKR)(hd:d.Ok):aO 17 [.agg (cn d)] (I (gF d)):=by
 have h1:=pI d.s hd.len.s;have h2:=cU d.d 900 1100;have h3:=I0 d.zn hd.len.zn;have h4:=cU d.gm (-100000) 100000;have h5:=cU d.oh 0 1000000;have hmb:(d.bl.map eBk).length=d.bl.length:=ao;have hsz:=hd.st;have hlb:=hd.len.bl;generalize hf:gF d=E;rw[gF,nk]at hf;by_cases hE:gz d.s=0
 rotate_left
 .rw[if_neg hE,if_neg hE]at hf;obtain⟨s,den,bl,zn,gm,oh⟩:=d;simp only at *
  generalize gz s=e at *
  subst hf;refine ax Proofs.Tryz.func17 ?_;refine aj h1 ?_;refine D ?_ ?_<;>intro h
  .clear h;exact co
  .simp at h;exact absurd h hE
 obtain⟨hst,h40⟩:=Bh hE;rw[hE]at h1;rw[if_pos hE]at hf;have hbr:=fun i b hb hpr hz hb40=>Hg d hst h40 hz hb40 i b hb (hsz b (bm hb)) hpr;clear hE;obtain⟨s,den,bl,zn,gm,oh⟩:=d;simp only at *
 refine ax Proofs.Tryz.func17 ?_;refine aj h1 ?_;refine aj h2 ?_;cases hi:aG den 900 1100 with
 |false =>
  rw[hi]at hf;subst hf;exact co
 |true =>
 rw[hi,if_pos O,if_pos O]at hf;refine aj h3 ?_;by_cases hz:jg zn=0
 rotate_left
 .rw[if_neg hz]at hf;generalize jg zn=e at *
  subst hf;refine D ?_ ?_<;>intro h
  .clear h;exact co
  .simp at h;exact absurd h hz
 rw[if_pos hz,tu]at hf;rw[hz];have hzi:=DC hz;clear hz h3;refine H ?_;rw[hmb];refine aS O ?_ ?_<;>intro h
 .rw[if_pos (show 40<bl.length by have:=aB h;omega),if_neg Y]at hf;subst hf;exact co
 have hb40:¬40<bl.length:=by have:=aE h;omega
 clear h;rw[if_neg hb40]at hf;refine H ?_;rw[hmb];refine ah (ClearE bl (lu s.st zn bl)) (fun k=>[(1,.ptr 1 1 0 0),(28,I bl.length),(29,I (k:Nat))]) (fun _=>[(1,1,⟨31,14,[cn ⟨s,den,bl,zn,gm,oh⟩],2⟩)]) (fun k=>bl.length-k) 0 .zero' ⟨O,O,O,O,trivial⟩ ?_;intro k s1 hk;have hkl:=hk.1;refine D ?_ ?_<;>intro h
 .have hlt:k<bl.length:=by have:=aB h;omega
  clear h;obtain⟨b,hx⟩:=aC hlt;have c1:=hbr k b hx (fun j c hj hc=>zy (hk.2 j c hj hc)) hzi J;have hw:=fg k;have hfl:=fun e (h:lu s.st zn bl k b=e) (he:e≠0)=>hk.found hx h he;have hsu:=fun(h:lu s.st zn bl k b=0)=>hk.succ hx h;generalize lu s.st zn bl k b=e at *
  refine aj c1 ?_;refine D ?_ ?_<;>intro h
  .have he:e≠0:=by simpa using h
   clear h;have:=hfl e O he;rw[this,if_neg he]at hf;subst hf;exact co
  .have he:e=0:=by simpa using h
   clear h;refine H ?_;exact⟨k+1,hsu he,J,O,O,congrArg I hw,O,trivial⟩
 have hge:¬k<bl.length:=by have:=aE h;omega
 clear h;rw[hk.none hge,if_pos O]at hf;refine aj h4 ?_;cases h4b:aG gm (-100000) 100000 with
 |false =>
  rw[h4b]at hf;subst hf;exact co
 |true =>
 rw[h4b]at hf;refine aj h5 ?_;cases h5b:aG oh 0 1000000;all_goals
  rw[h5b]at hf;subst hf;exact co
theorem tM (s:SHP)(x z:Int)(hx : -1000000<=x/\x<=1000000)(hst:∀t∈s.st,StOk t)(hn:s.st.length<=40):aO 42 [.agg (fB s),I x,I z] (.tup [I ((gc x z s.st).getD 0),.bool (gc x z s.st).isSome]):=by
 have hml:(s.st.map eT).length=s.st.length:=ao;have q1:IntKind.i64.wrap (2*x)=2*x:=wrap_i64 J J;generalize hR:gc x z s.st=R;obtain⟨nm,len,st,light,it⟩:=s;simp only at *
 refine ax Proofs.Tryz.func42 ?_;refine H ?_;refine ah (fun i:Nat=>i<=st.length/\gc x z (st.drop i)=R) (fun i=>[(1,I x),(2,I z),(3,.ptr 3 1 0 0),(8,I (i:Nat))]) (fun _=>[(3,1,⟨27,9,[fB ⟨nm,len,st,light,it⟩],2⟩)]) (fun i=>st.length-i) 0 ⟨aP _,by rw[ep];exact hR⟩ ⟨O,O,O,O,O,trivial⟩ ?_;rintro i s ⟨hi,hall⟩;refine H ?_;rw[hml];refine aS O ?_ ?_<;>intro h
 .have hlt:i<st.length:=by have:=aB h;omega
  clear h;obtain⟨t,ht⟩:=aC hlt;have ok:=hst t (bm ht);obtain⟨⟨a1,a2⟩,⟨a3,a4⟩,⟨-,aL⟩,hLH,-,-,-⟩:=ok;rw[yj ht]at hall;have q2:IntKind.i64.wrap (2*t.x)=2*t.x:=wrap_i64 J J;have q3:IntKind.i64.wrap (2*t.x-t.w)=2*t.x-t.w:=wrap_i64 J J;have q4:IntKind.i64.wrap (2*t.x+t.w)=2*t.x+t.w:=wrap_i64 J J;have hw:=fg i;have hmh:(t.H0.map eN).length=t.H0.length:=ao;refine aQ ht ?_;refine H ?_;rw[q1];refine H ?_;rw[q2];refine H ?_;rw[q3];refine LP O O O ?_ ?_<;>intro h
  .have d1:=aB h;clear h;rw[if_neg (by rw[tV,decide_eq_false J,eP];decide)]at hall;refine H ?_;exact⟨i+1,⟨hlt,hall⟩,J,O,O,O,congrArg I hw,O,trivial⟩
  have d1:=aE h;clear h;refine H ?_;rw[q1];refine H ?_;rw[q2];refine H ?_;rw[q4];refine aS O ?_ ?_<;>intro h
  .have d2:=aB h;clear h;rw[if_neg (by rw[tV,decide_eq_false (show ¬2*x<2*t.x+t.w by omega),iU];decide)]at hall;refine H ?_;exact⟨i+1,⟨hlt,hall⟩,J,O,O,O,congrArg I hw,O,trivial⟩
  have d2:=aE h;clear h;rw[if_pos (by rw[tV,decide_eq_true J,decide_eq_true J];rfl)]at hall;refine H ?_;refine aT [(1,I x),(2,I z),(3,.ptr 3 1 0 0),(8,I (i:Nat)),(9,.ptr 9 ((s.own 9).1+1) 0 0),(10,I ((0:Nat):Int))] [(3,1,⟨27,9,[fB ⟨nm,len,st,light,it⟩],2⟩),(9,(s.own 9).1+1,⟨130,4,[eT t],2⟩)] ⟨O,O,O,O,O,O,O,O,trivial⟩ ?_;generalize (s.own 9).1+1=g9;intro s1;refine ah (fun k:Nat=>k<=t.H0.length/\(match lU t.L z (t.H0.drop k) k with|some n=>some n|none=>gc x z (st.drop (i+1)))=R) (fun k=>[(1,I x),(2,I z),(3,.ptr 3 1 0 0),(8,I (i:Nat)),(9,.ptr 9 g9 0 0),(10,I (k:Nat))]) (fun _=>[(3,1,⟨27,9,[fB ⟨nm,len,st,light,it⟩],2⟩),(9,g9,⟨130,4,[eT t],2⟩)]) (fun k=>t.H0.length-k) 0 ⟨aP _,by rw[ep];exact hall⟩ ⟨rfl,rfl,rfl,rfl,rfl,rfl,rfl,rfl,trivial⟩ ?_;clear hall;rintro k s2 ⟨hk,hall⟩;refine H ?_;rw[hmh];refine aS O ?_ ?_<;>intro h
  .have hlk:k<t.H0.length:=by have:=aB h;omega
   clear h;obtain⟨y,hy⟩:=aC hlk;have hlL:k<t.L.length:=J;obtain⟨n,hn⟩:=aC hlL;have hgd:t.L.getD k 0=n:=by rw[cY,hn];rfl
   have hwk:IntKind.i64.wrap (((k:Nat):Int)+1)=((k+1:Nat):Int):=by rw[wrap_i64 J J];omega
   rw[wb hy,hgd]at hall;refine aQ hy ?_;refine D ?_ ?_<;>intro h
   .have d3:z<y:=aB h;clear h;rw[if_pos d3]at hall;subst hall;refine aQ hn ?_;exact bW
   .have d3:¬z<y:=aE h;clear h;rw[if_neg d3]at hall;refine H ?_;exact⟨k+1,⟨hlk,hall⟩,J,O,O,O,O,O,congrArg I hwk,O,O,trivial⟩
  .have hke:k=t.H0.length:=by have:=aE h;omega
   clear h;subst hke;rw[fH,lU]at hall;refine H ?_;exact⟨i+1,⟨hlt,hall⟩,J,O,O,O,congrArg I hw,O,trivial⟩
 .have hge:i=st.length:=by have:=aE h;omega
  clear h;subst hge;rw[fH,gc]at hall;subst hall;exact bW
theorem yU (a b:Int)(h1 : -2000000<=a-b)(h2:a-b<=2000000):aO 135 [I a,I b] (I (j6 a b)):=by
 have q1:IntKind.i64.wrap (a-b)=a-b:=wrap_i64 J J;have q2:IntKind.i64.wrap (b-a)=b-a:=wrap_i64 J J;refine ax Proofs.Tryz.func135 ?_;refine H ?_;rw[q1,q2];exact pm O O O
theorem C6 (b:BKR)(hs:b.st.sz 12):aO 134 [.agg (eBk b)] (I (if qp b=true then 0 else 2)):=by
 have o1:=dp b.x (-1000000) 1000000;have o2:=dp b.hf 1 10000;have o3:=dp b.ht 0 100000;have o4:=dp b.wd 1 20000;have o5:=dp b.lim 0 1000000000;have o6:=gu b.st (hx:=hs.v) Y;have o7:=dp b.z 1 100000;have hsg:=nU b.st.val;generalize hf:qp b=E;rw[qp,Kz]at hf;have hp:decide (0<b.st.val)=!decide (sgn b.st.val<=0):=by
  by_cases h:sgn b.st.val<=0
  .rw[decide_eq_true h,decide_eq_false (fun g=>absurd g (Rat.not_lt.2 (hsg.1 h)))];rfl
  .rw[decide_eq_false h,decide_eq_true (Rat.not_le.1 fun g=>h (hsg.2 g))];rfl
 rw[hp]at hf;clear hp hsg;have hz:aG b.z 1 100000=true->1<=b.z/\b.z<=100000:=fun h=>ej h;obtain⟨x,z,hfw,ht,wd,st,lim,side⟩:=b;simp only at *
 generalize aG x (-1000000) 1000000=b1,aG hfw 1 10000=b2,aG ht 0 100000=b3,aG wd 1 20000=b4,aG lim 0 1000000000=b5,aG z 1 100000=b7,sgn st.val=sg at *
 refine ax Proofs.Tryz.func134 ?_;refine aj o1 ?_;cases b1
 .subst hf;exact co
 refine aj o2 ?_;cases b2
 .subst hf;exact co
 refine aj o3 ?_;cases b3
 .subst hf;exact co
 refine aj o4 ?_;cases b4
 .subst hf;exact co
 refine aj o5 ?_;cases b5
 .subst hf;exact co
 refine aj o6 ?_;refine H ?_;by_cases h6:sg<=0
 .rw[decide_eq_true h6]at hf ⊢;subst hf;exact co
 rw[decide_eq_false h6]at hf ⊢;refine H ?_;cases side
 .by_cases h8:z=0
  .rw[show E=true by rw[<-hf];simp[h8]];subst h8;exact co
  .rw[show E=false by rw[<-hf];simp[h8]];refine D ?_ ?_<;>intro h
   .clear h;exact co
   .simp at h;exact absurd h h8
 .refine aj o7 ?_;cases b7
  .subst hf;exact co
  have hz:=hz O;have q1:IntKind.i64.wrap (2*z)=2*z:=wrap_i64 J J;refine H ?_;rw[q1];by_cases h9:2*z<wd
  .rw[show E=false by rw[<-hf];simp;omega];rw[decide_eq_true h9];exact co
  .rw[show E=true by rw[<-hf];simp;omega];rw[decide_eq_false h9];exact co
theorem Eu (d:DKR)(hst:∀t∈d.s.st,StOk t)(h40:d.s.st.length<=40)(hz:d.zn.length<=20/\∀z∈d.zn,ZnIn z)(hb40:d.bl.length<=40)(i:Nat)(b:BKR)(hb:d.bl[i]? = some b)(hs:b.st.sz 12)(hpr:∀j c,j<i->d.bl[j]? = some c->BkIn c) :
  aO 73 [.agg (cn d),I (i:Nat)] (I (lu d.s.st d.zn d.bl i b)):=by
 have r1:=C6 b hs;have hin:=fun h=>s8 (b:=b) h;have hbt:=fun h:qp b=true=>tM d.s b.x b.z (s8 h).x hst h40;have hmz:(d.zn.map lA).length=d.zn.length:=ao;generalize hf:lu d.s.st d.zn d.bl i b=E;rw[lu]at hf;obtain⟨s,den,bl,zn,gm,oh⟩:=d;simp only at *
 have hil:i<bl.length:=(bV hb).1;generalize qp b=b1 at *
 refine ax Proofs.Tryz.func73 ?_;refine aQ hb ?_;refine aj r1 ?_;cases b1
 .subst hf;exact co
 rw[if_pos O]at hf;have hin:=hin O;have hbt:=hbt O;obtain⟨⟨a1,a2⟩,⟨a3,a4⟩,-,⟨a5,a6⟩,⟨a7,a8⟩,-,-⟩:=hin;refine aj hbt ?_;cases hbo:gc b.x b.z s.st with
 |none =>
  rw[hbo,if_neg Y]at hf;subst hf;exact co
 |some n =>
 rw[hbo,Option.isSome_some,if_pos O]at hf;have p1:IntKind.i64.wrap (b.x-b.hf)=b.x-b.hf:=wrap_i64 J J;have p2:IntKind.i64.wrap (b.x+b.hf)=b.x+b.hf:=wrap_i64 J J;have p3:IntKind.i64.wrap (2*b.z)=2*b.z:=wrap_i64 J J;have p4:IntKind.i64.wrap (2*b.z-b.wd)=2*b.z-b.wd:=wrap_i64 J J;refine H ?_;refine aT [(1,I (i:Nat)),(2,.ptr 2 1 0 0),(5,.ptr 5 1 0 0),(9,I ((0:Nat):Int))] [(2,1,⟨31,14,[cn ⟨s,den,bl,zn,gm,oh⟩],2⟩),(5,1,⟨108,11,[eBk b],2⟩)] ⟨O,O,O,O,O,O,trivial⟩ ?_;intro s0;refine ah (fun k:Nat=>k<=zn.length/\∀j u,j<k->zn[j]? = some u->kS b u=false) (fun k=>[(1,I (i:Nat)),(2,.ptr 2 1 0 0),(5,.ptr 5 1 0 0),(9,I (k:Nat))]) (fun _=>[(2,1,⟨31,14,[cn ⟨s,den,bl,zn,gm,oh⟩],2⟩),(5,1,⟨108,11,[eBk b],2⟩)]) (fun k=>zn.length-k) 0 ⟨aP _,fun j u hj=>absurd hj J⟩ ⟨O,O,O,O,O,O,trivial⟩ ?_;rintro k s1 ⟨hk,hall⟩;refine H ?_;rw[hmz];refine aS O ?_ ?_<;>intro h
 .have hlt:k<zn.length:=by have:=aB h;omega
  clear h;obtain⟨z,hx⟩:=aC hlt;obtain⟨-,⟨z1,z2⟩,z3,z4⟩:=hz.2 z (bm hx);have p5:IntKind.i64.wrap (2*z.h)=2*z.h:=wrap_i64 J J;have hw:=fg k;have go:kS b z=false->∀j u,j<k+1->zn[j]? = some u->kS b u=false:=fun hb j u hj hu=>by
   rcases bG j k with g|g
   .exact hall j u g hu
   .rw[show j=k by omega,hx]at hu;cases hu;exact hb
  refine aQ hx ?_;refine H ?_;rw[p1];refine LP O O O ?_ ?_<;>intro h
  rotate_left
  .have d1:=aE h;clear h;refine H ?_;exact⟨k+1,⟨hlt,go (by rw[kS,decide_eq_false d1,eP,eP])⟩,J,O,O,O,congrArg I hw,O,O,trivial⟩
  have d1:=aB h;clear h;refine H ?_;rw[p2];refine eW ?_ ?_<;>intro h
  rotate_left
  .have d2:=aE h;clear h;refine H ?_;exact⟨k+1,⟨hlt,go (by rw[kS,decide_eq_false d2,iU,eP])⟩,J,O,O,O,congrArg I hw,O,O,trivial⟩
  have d2:=aB h;clear h;refine H ?_;rw[p3];refine H ?_;rw[p4];refine H ?_;rw[p5];refine D ?_ ?_<;>intro h
  .have d3:2*b.z-b.wd<2*z.h:=aB h;clear h;rw[if_pos (vz hx (by rw[kS,decide_eq_true d1,decide_eq_true d2,decide_eq_true d3];rfl))]at hf;subst hf;exact co
  .have d3:¬2*b.z-b.wd<2*z.h:=aE h;clear h;refine H ?_;exact⟨k+1,⟨hlt,go (by rw[kS,decide_eq_false d3,iU])⟩,J,O,O,O,congrArg I hw,O,O,trivial⟩
 have hge:k=zn.length:=by have:=aE h;omega
 clear h;subst hge;rw[ye hall,if_neg Y]at hf;clear hall;refine H ?_;refine ah (fun k:Nat=>k<=i/\∀j u,j<k->bl[j]? = some u->ly b u=false) (fun k=>[(1,I (i:Nat)),(2,.ptr 2 1 0 0),(5,.ptr 5 1 0 0),(11,I (k:Nat))]) (fun _=>[(2,1,⟨31,14,[cn ⟨s,den,bl,zn,gm,oh⟩],2⟩),(5,1,⟨108,11,[eBk b],2⟩)]) (fun k=>i-k) 0 ⟨aP _,fun j u hj=>absurd hj J⟩ ⟨O,O,O,O,O,O,trivial⟩ ?_;rintro k s3 ⟨hk,hall⟩;refine D ?_ ?_<;>intro h
 .have hlt:k<i:=by have:=aB h;omega
  clear h;obtain⟨c,hx⟩:=aC (show k<bl.length by omega);obtain⟨⟨c1,c2⟩,⟨c3,c4⟩,-,⟨c5,c6⟩,⟨c7,c8⟩,-,-⟩:=hpr k c hlt hx;have e1:=yU b.x c.x J J;have e2:=yU b.z c.z J J;have hdz : -2000000<=j6 b.z c.z/\j6 b.z c.z<=2000000:=by rw[j6];split<;>omega
  have hbc:ly b c=(decide (j6 b.x c.x<b.hf+c.hf)&&decide (2*j6 b.z c.z<b.wd+c.wd)):=O;have q1:IntKind.i64.wrap (b.hf+c.hf)=b.hf+c.hf:=wrap_i64 J J;have q2:IntKind.i64.wrap (2*j6 b.z c.z)=2*j6 b.z c.z:=wrap_i64 J J;have q3:IntKind.i64.wrap (b.wd+c.wd)=b.wd+c.wd:=wrap_i64 J J;have hw:=fg k;have go:ly b c=false->∀j u,j<k+1->bl[j]? = some u->ly b u=false:=fun hb j u hj hu=>by
   rcases bG j k with g|g
   .exact hall j u g hu
   .rw[show j=k by omega,hx]at hu;cases hu;exact hb
  generalize j6 b.x c.x=D1,j6 b.z c.z=D2 at *
  refine aQ hx ?_;refine cO 25 [87,88,89,90,91,92,93,94,95,96,97,98,99,100,101,102,103,104,105,106,107,108,109,110,111] ?_;refine aj e1 ?_;refine H ?_;rw[q1];refine LP O O O ?_ ?_<;>intro h
  rotate_left
  .have d1:=aE h;clear h;refine H ?_;exact⟨k+1,⟨hlt,go (by rw[hbc,decide_eq_false d1,eP])⟩,J,O,O,O,congrArg I hw,O,O,trivial⟩
  have d1:=aB h;clear h;refine aj e2 ?_;refine H ?_;rw[q2];refine H ?_;rw[q3];refine D ?_ ?_<;>intro h
  .have d2:2*D2<b.wd+c.wd:=aB h;clear h;rw[if_pos (vA hlt hx (by rw[hbc,decide_eq_true d1,decide_eq_true d2];rfl))]at hf;subst hf;exact co
  .have d2:¬2*D2<b.wd+c.wd:=aE h;clear h;refine H ?_;exact⟨k+1,⟨hlt,go (by rw[hbc,decide_eq_false d2,iU])⟩,J,O,O,O,congrArg I hw,O,O,trivial⟩
 have hge:k=i:=by have:=aE h;omega
 clear h;subst hge;rw[pD hall,if_neg Y]at hf;subst hf;exact co
end Go.Pv
namespace Go.Pv
open Go.Proofs
def iR (st:List ST)(b:BKR):Int:=(gc b.x b.z st).getD 0
def jZ (b:BKR):Rat:=if b.side=true then b.st.val*2 else b.st.val
def ny (st:List ST)(b:BKR):SR:=⟨b.x,ofQ ((b.ht-iR st b:Int):Rat),⟨[0],[ofQ (jZ b)]⟩⟩
def dA (st:List ST)(l:List BKR):List SR:=l.map (ny st)
theorem si {st:List ST}{l:List BKR}{k:Nat}{b:BKR}(h:l[k]? = some b):dA st (l.take (k+1))=dA st (l.take k)++[ny st b]:=by
 rw[dA,dA,bS h,bc];rfl
def r7 (q:Rat)(s:SR):SR:=⟨s.x,ofQ q,s.k⟩
def gH (d:DKR):Nat:=d.d.toNat
def dU (d:DKR)(q:Rat):List SR:=dA d.s.st d.bl++(eH (gH d) d.s.st).map (r7 q)
theorem B6 {L:List Int}{z n:Int}:∀ {H0:List Int} {k:Nat},lU L z H0 k=some n->∃j,k<=j/\j<k+H0.length/\n=L.getD j 0
 |[],k,h=>by simp[lU]at h
 |a::H0,k,h=>by
  rw[lU]at h;split at h
  .exact⟨k,a_,ao,by simpa using h.symm⟩
  .obtain⟨j,h1,h2,h3⟩:=B6 h;exact⟨j,J,by simp;omega,h3⟩
theorem zz {x z n:Int}:∀ {l:List ST},(∀t∈l,StOk t)->gc x z l=some n->0<=n/\n<=100000
 |[],_,h=>by simp[gc]at h
 |t::l,hs,h=>by
  rw[gc]at h;have hl:=fun u hu=>hs u (iB _ hu);split at h
  .split at h
   .rename_i m hm;have ok:=hs t gU;obtain⟨j,h1,h2,h3⟩:=B6 hm;have hj:j<t.L.length:=by have:=ok.h;omega
    rw[cY,bU hj]at h3;have:=ok.L _ (List.getElem_mem hj);simp only[bg]at h;simp at h3;omega
   .exact zz hl h
  .exact zz hl h
theorem ou {st:List ST}(hs:∀t∈st,StOk t)(b:BKR):0<=iR st b/\iR st b<=100000:=by
 rw[iR];cases h:gc b.x b.z st with
 |none=>exact⟨oM _,Y⟩
 |some n=>exact zz hs h
end Go.Pv
set_option maxHeartbeats 2000000
namespace Go.Pv
attribute [local irreducible] PWP POps PQuiet PSem aF aw ai ak
open Go.Proofs
structure DKR.Bl (d:DKR):Prop where
 st:∀t∈d.s.st,StOk t
 n:d.s.st.length<=40
 b:∀b∈d.bl,BkIn b/\b.st.sz 12
 m:d.bl.length<=40
theorem DM (k:DKR)(hk:k.Bl):aO 90 [.agg (cn k)] (.sl ((dA k.s.st k.bl).map eS)):=by
 have hml:(k.bl.map eBk).length=k.bl.length:=ao;obtain⟨hst,hn,hb,hm⟩:=hk;obtain⟨s,den,bl,zn,gm,oh⟩:=k;simp only at *
 refine ax Proofs.Tryz.func90 ?_;refine cN 2 ?_;refine am (Ghost.nilreg (k:=1003) (t:=3) 136 7 1 O O) ?_;refine H ?_;rw[hml];refine aT [(1,.ptr 1 1 0 0),(3,.als 1003 1 0 0),(10,.sl (bl.map eBk)),(11,I bl.length),(12,I ((0:Nat):Int))] [(1,1,⟨31,14,[cn ⟨s,den,bl,zn,gm,oh⟩],2⟩),(1003,1,⟨136,7,[],1⟩)] ⟨O,O,O,O,O,O,O,trivial⟩ ?_;intro s0;refine ah (fun i:Nat=>i<=bl.length) (fun i=>[(1,.ptr 1 1 0 0),(3,.als 1003 (1+i) 0 ((dA s.st (bl.take i)).map eS).length),(10,.sl (bl.map eBk)),(11,I bl.length),(12,I (i:Nat))])
  (fun i=>[(1,1,⟨31,14,[cn ⟨s,den,bl,zn,gm,oh⟩],2⟩),(1003,1+i,⟨136,7,(dA s.st (bl.take i)).map eS,1⟩)]) (fun i=>bl.length-i) 0 (aP _) ⟨O,O,O,O,O,O,O,trivial⟩ ?_
 intro i s1 hi;refine D ?_ ?_<;>intro h
 .have hlt:i<bl.length:=by have:=aB h;omega
  clear h;obtain⟨b,hx⟩:=aC hlt;obtain⟨hin,hsz⟩:=hb b (bm hx);have hrow:=si (st:=s.st) hx;have e0:=pE s b.x b.z hin.x hst hn;have hbi:=ou hst b;have hht:=hin.ht;rw[show(gc b.x b.z s.st).getD 0=iR s.st b from O]at e0;have hwh:IntKind.i64.wrap (b.ht-iR s.st b)=b.ht-iR s.st b:=wrap_i64 J J;have z1:Zb 1:=aJ Y Y;have z2:Zb 2:=aJ Y Y;have e1:=jd 1 ⟨Y,Y⟩;have e2:=i7 b.st (ofQ ((1:Int):Rat)) (hx:=hsz.v) Y Y;have e3:=jd 2 ⟨Y,Y⟩;have e4:=i7 b.st (ofQ ((2:Int):Rat)) (hx:=hsz.v) Y Y;have e5:=jd (b.ht-iR s.st b) ⟨J,J⟩;have hst1:b.side=false->ofQ (jZ b)=ofQ (b.st.val*((1:Int):Rat)):=fun h=>by rw[jZ,h,if_neg Y,show((1:Int):Rat)=1 from O,Rat.mul_one]
  have hst2:b.side=true->ofQ (jZ b)=ofQ (b.st.val*((2:Int):Rat)):=fun h=>by rw[jZ,h,if_pos O];rfl
  have hbS:eS (ny s.st b)=I b.x::(eR (ofQ ((b.ht-iR s.st b:Int):Rat))++[.sl [[I 0]],.sl [eR (ofQ (jZ b))]]):=O;have hw:=fg i;have hll:(dA s.st (bl.take i)).length<=40:=by rw[dA,aR,bw];omega
  generalize ny s.st b=bs,dA s.st (bl.take i)=Bl,(gc b.x b.z s.st).isSome=bo at *
  generalize hF:ofQ (jZ b)=F at *
  generalize iR s.st b=bt at *
  generalize ofQ ((b.ht-bt:Int):Rat)=C,ofQ (b.st.val*((1:Int):Rat))=F1,ofQ (b.st.val*((2:Int):Rat))=F2,ofQ ((1:Int):Rat)=W1,ofQ ((2:Int):Rat)=W2 at *
  refine aQ hx ?_;refine aj e0 ?_;refine cN 6 ?_;refine am (fp 8) ?_;refine be [(4,8),(5,8)] aK aK ?_;refine G e1 ?_;refine G e2 ?_;refine H ?_;by_cases hsd:b.side=true
  .have hF2:=hst2 hsd;subst hF2;rw[hsd];refine cO 4 [32,33,34,35] ?_;refine G e3 ?_;refine G e4 ?_;refine H ?_;refine bj [49,1003] [13,14,15] aK ?_;refine H ?_;rw[hwh];refine sT O O O e5 O O ?_;refine H ?_;refine cf O O (fw O O O O O O O O O O aH O) ?_;refine H ?_;refine cf O O (dH O O O O O O O O O O aH O) ?_;refine H ?_;refine lr O O O (aY 1 O O O O O O O O O O O aH O ⟨gZ O,?_⟩);refine H ?_;refine lr O O O (bJ 1 O O O O O O O O O O O aH (by intro row hr;first|(simp at hr;subst hr;rfl)|(simp at hr;obtain⟨_,_,rfl⟩:=hr;rfl)|simp at hr) O O aV aV ⟨gZ O,?_⟩);refine H ?_;have hr2:(dA s.st (bl.take (i+1))).map eS=Bl.map eS++[I b.x::(eR C++[.sl [[I 0]],.sl [eR F]])]:=by rw[hrow,bc,<-hbS];rfl
   refine⟨i+1,hlt,J,O,?_,O,O,congrArg I hw,O,?_,trivial⟩
   .rw[hr2];rfl
   .rw[hr2];rfl
  .have hsd:b.side=false:=by simpa using hsd
   have hF1:=hst1 hsd;subst hF1;rw[hsd];refine H ?_;refine bj [49,1003] [13,14,15] aK ?_;refine H ?_;rw[hwh];refine sT O O O e5 O O ?_;refine H ?_;refine cf O O (fw O O O O O O O O O O aH O) ?_;refine H ?_;refine cf O O (dH O O O O O O O O O O aH O) ?_;refine H ?_;refine lr O O O (aY 1 O O O O O O O O O O O aH O ⟨gZ O,?_⟩);refine H ?_;refine lr O O O (bJ 1 O O O O O O O O O O O aH (by intro row hr;first|(simp at hr;subst hr;rfl)|(simp at hr;obtain⟨_,_,rfl⟩:=hr;rfl)|simp at hr) O O aV aV ⟨gZ O,?_⟩);refine H ?_;have hr2:(dA s.st (bl.take (i+1))).map eS=Bl.map eS++[I b.x::(eR C++[.sl [[I 0]],.sl [eR F]])]:=by rw[hrow,bc,<-hbS];rfl
   refine⟨i+1,hlt,J,O,?_,O,O,congrArg I hw,O,?_,trivial⟩
   .rw[hr2];rfl
   .rw[hr2];rfl
 .have hie:i=bl.length:=by have:=aE h;omega
  clear h;subst hie;rw[bb]
  (repeat ((fail_if_success (with_reducible refine da ?_));refine qy O ?_))
  refine am (Ghost.takeD (k:=1003) (t:=2) O O O) ?_;exact bW
theorem vH {K:St->Prop}{s':St}{d g2 h3:Nat}{c2 c3:Cont}{x:Operand}{tys:Array TypeId}{ty:TypeId}{pos:String}{af:Array Edge}(k:DKR)(hk:k.Bl)(hx:s'.ev x = .agg (cn k))(ho:FitO s' [(2,g2,c2),(3,h3,c3)])
  (hK:∀(s1:St) (g:Nat),K (({ reg:=s'.reg,own:=(s1.over [] [(1003,g,⟨136,7,(dA k.s.st k.bl).map eS,1⟩),(2,g2,c2),(3,h3,c3)]).own }:St).putR d (.als 1003 g 0 ((dA k.s.st k.bl).map eS).length))) :
  Sm Tryz.prog lay.get s' ⟨some d,.call ⟨.value (.func 90),#[x],tys⟩,ty,pos,af,none⟩ K:=by
 have hml:(k.bl.map eBk).length=k.bl.length:=ao;obtain⟨hst,hn,hb,hm⟩:=hk;obtain⟨s,den,bl,zn,gm,oh⟩:=k;simp only at *
 refine cS layOk O O Tryz.func90 O Y O O ?_;show PWP _ _ _ _ (bO s' (([x]:List Operand).map s'.ev++[]));rw[show(([x]:List Operand).map s'.ev++([]:List PV))=[.agg (cn ⟨s,den,bl,zn,gm,oh⟩)] by simp[hx]];rw[show bO s' [.agg (cn ⟨s,den,bl,zn,gm,oh⟩)]=bO (s'.over [] [(2,g2,c2),(3,h3,c3)]) [.agg (cn ⟨s,den,bl,zn,gm,oh⟩)] by rw[Fit.over (l:=[]) ho]];refine cN 2 ?_;refine am (Ghost.nilreg (k:=1003) (t:=3) 136 7 1 O O) ?_;refine H ?_;rw[hml];refine aT [(1,.ptr 1 ((s'.own 1).1+1) 0 0),(3,.als 1003 ((s'.own 1003).1+1) 0 0),(10,.sl (bl.map eBk)),(11,I bl.length),(12,I ((0:Nat):Int))] [(1,((s'.own 1).1+1),⟨31,14,[cn ⟨s,den,bl,zn,gm,oh⟩],2⟩),(1003,((s'.own 1003).1+1),⟨136,7,[],1⟩),(2,g2,c2),(3,h3,c3)] ⟨O,O,O,O,O,O,O,O,O,trivial⟩ ?_;generalize (s'.own 1).1+1=g1;generalize (s'.own 1003).1+1=g3;intro s0;refine ah (fun i:Nat=>i<=bl.length) (fun i=>[(1,.ptr 1 g1 0 0),(3,.als 1003 (g3+i) 0 ((dA s.st (bl.take i)).map eS).length),(10,.sl (bl.map eBk)),(11,I bl.length),(12,I (i:Nat))])
  (fun i=>[(1,g1,⟨31,14,[cn ⟨s,den,bl,zn,gm,oh⟩],2⟩),(1003,g3+i,⟨136,7,(dA s.st (bl.take i)).map eS,1⟩),(2,g2,c2),(3,h3,c3)]) (fun i=>bl.length-i) 0 (aP _) ⟨O,O,O,O,O,O,O,O,O,trivial⟩ ?_
 intro i s1 hi;refine D ?_ ?_<;>intro h
 .have hlt:i<bl.length:=by have:=aB h;omega
  clear h;obtain⟨b,hx⟩:=aC hlt;obtain⟨hin,hsz⟩:=hb b (bm hx);have hrow:=si (st:=s.st) hx;have e0:=pE s b.x b.z hin.x hst hn;have hbi:=ou hst b;have hht:=hin.ht;rw[show(gc b.x b.z s.st).getD 0=iR s.st b from O]at e0;have hwh:IntKind.i64.wrap (b.ht-iR s.st b)=b.ht-iR s.st b:=wrap_i64 J J;have z1:Zb 1:=aJ Y Y;have z2:Zb 2:=aJ Y Y;have e1:=jd 1 ⟨Y,Y⟩;have e2:=i7 b.st (ofQ ((1:Int):Rat)) (hx:=hsz.v) Y Y;have e3:=jd 2 ⟨Y,Y⟩;have e4:=i7 b.st (ofQ ((2:Int):Rat)) (hx:=hsz.v) Y Y;have e5:=jd (b.ht-iR s.st b) ⟨J,J⟩;have hst1:b.side=false->ofQ (jZ b)=ofQ (b.st.val*((1:Int):Rat)):=fun h=>by rw[jZ,h,if_neg Y,show((1:Int):Rat)=1 from O,Rat.mul_one]
  have hst2:b.side=true->ofQ (jZ b)=ofQ (b.st.val*((2:Int):Rat)):=fun h=>by rw[jZ,h,if_pos O];rfl
  have hbS:eS (ny s.st b)=I b.x::(eR (ofQ ((b.ht-iR s.st b:Int):Rat))++[.sl [[I 0]],.sl [eR (ofQ (jZ b))]]):=O;have hw:=fg i;have hll:(dA s.st (bl.take i)).length<=40:=by rw[dA,aR,bw];omega
  generalize ny s.st b=bs,dA s.st (bl.take i)=Bl,(gc b.x b.z s.st).isSome=bo at *
  generalize hF:ofQ (jZ b)=F at *
  generalize iR s.st b=bt at *
  generalize ofQ ((b.ht-bt:Int):Rat)=C,ofQ (b.st.val*((1:Int):Rat))=F1,ofQ (b.st.val*((2:Int):Rat))=F2,ofQ ((1:Int):Rat)=W1,ofQ ((2:Int):Rat)=W2 at *
  refine aQ hx ?_;refine aj e0 ?_;refine cN 6 ?_;refine am (fp 8) ?_;refine be [(4,8),(5,8)] aK aK ?_;refine G e1 ?_;refine G e2 ?_;refine H ?_;by_cases hsd:b.side=true
  .have hF2:=hst2 hsd;subst hF2;rw[hsd];refine cO 4 [32,33,34,35] ?_;refine G e3 ?_;refine G e4 ?_;refine H ?_;refine bj [49,1003] [13,14,15] aK ?_;refine H ?_;rw[hwh];refine sT O O O e5 O O ?_;refine H ?_;refine cf O O (fw O O O O O O O O O O aH O) ?_;refine H ?_;refine cf O O (dH O O O O O O O O O O aH O) ?_;refine H ?_;refine lr O O O (aY 1 O O O O O O O O O O O aH O ⟨gZ O,?_⟩);refine H ?_;refine lr O O O (bJ 1 O O O O O O O O O O O aH (by intro row hr;first|(simp at hr;subst hr;rfl)|(simp at hr;obtain⟨_,_,rfl⟩:=hr;rfl)|simp at hr) O O aV aV ⟨gZ O,?_⟩);refine H ?_;have hr2:(dA s.st (bl.take (i+1))).map eS=Bl.map eS++[I b.x::(eR C++[.sl [[I 0]],.sl [eR F]])]:=by rw[hrow,bc,<-hbS];rfl
   refine⟨i+1,hlt,J,O,?_,O,O,congrArg I hw,O,?_,O,O,trivial⟩
   .rw[hr2];rfl
   .rw[hr2];rfl
  .have hsd:b.side=false:=by simpa using hsd
   have hF1:=hst1 hsd;subst hF1;rw[hsd];refine H ?_;refine bj [49,1003] [13,14,15] aK ?_;refine H ?_;rw[hwh];refine sT O O O e5 O O ?_;refine H ?_;refine cf O O (fw O O O O O O O O O O aH O) ?_;refine H ?_;refine cf O O (dH O O O O O O O O O O aH O) ?_;refine H ?_;refine lr O O O (aY 1 O O O O O O O O O O O aH O ⟨gZ O,?_⟩);refine H ?_;refine lr O O O (bJ 1 O O O O O O O O O O O aH (by intro row hr;first|(simp at hr;subst hr;rfl)|(simp at hr;obtain⟨_,_,rfl⟩:=hr;rfl)|simp at hr) O O aV aV ⟨gZ O,?_⟩);refine H ?_;have hr2:(dA s.st (bl.take (i+1))).map eS=Bl.map eS++[I b.x::(eR C++[.sl [[I 0]],.sl [eR F]])]:=by rw[hrow,bc,<-hbS];rfl
   refine⟨i+1,hlt,J,O,?_,O,O,congrArg I hw,O,?_,O,O,trivial⟩
   .rw[hr2];rfl
   .rw[hr2];rfl
 .have hie:i=bl.length:=by have:=aE h;omega
  clear h;subst hie;rw[bb];refine H ?_;exact zP (K:=fun o r=>K (({ reg:=s'.reg,own:=o }:St).putR d r)) [(1003,g3+bl.length,⟨136,7,(dA s.st bl).map eS,1⟩),(2,g2,c2),(3,h3,c3)] (.inl O) O O ⟨O,O,O,trivial⟩ (fun s1=>hK s1 _)
theorem RA (x:RR){p:Rat}{n:Nat}[hx:Vq x p n](hn:n<=10000000):aO 91 [.agg (eR x),.agg zN] (.agg (eR (ofQ p))):=by
 have hs:=eY x RR.zero J Y;rw[jN]at hs;exact hs.weak (.cons (.rfl _) (.cons ff.agg .nil)) (.rfl _)
theorem yd {A:List SR}{W:List SR}{q:Rat}{i:Nat}{s:SR}(h:W[i]? = some s):A++(W.take (i+1)).map (r7 q)=A++(W.take i).map (r7 q)++[r7 q s]:=by
 rw[bS h,bc,bi];rfl
theorem oy {d:DKR}(h:900<=d.d/\d.d<=1100):((gH d:Nat):Int)=d.d:=Int.toNat_of_nonneg J
theorem lM (d:DKR)(hk:d.Bl)(hd:900<=d.d/\d.d<=1100)(he:nk d.s d.d=0)(hs:d.s.Len)(lv:RR){p:Rat}{n:Nat}[hv:Vq lv p n](hn:n<=10000000):aO 97 [.agg (cn d),.agg (eR lv)] (.sl ((dU d p).map eS)):=by
 have hdn:=oy hd;have h1:=tT d.s hs (gH d) (by rw[hdn];exact he) J J hk.st hk.n;rw[hdn]at h1;have h2:=RA lv (hx:=hv) hn;have hmw:((eH (gH d) d.s.st).map eS).length=d.s.st.length:=by simp[eH]
 have hA:(dA d.s.st d.bl).length<=40:=by rw[dA,aR];exact hk.m
 have hWl:(eH (gH d) d.s.st).length<=40:=by rw[eH,aR];exact hk.n
 have hmw2:((eH (gH d) d.s.st).map eS).length=(eH (gH d) d.s.st).length:=ao;rw[dU];have hin:=@vH;have hB:=fun K s' d' g2 h3 c2 c3 x tys ty pos af=>@vH K s' d' g2 h3 c2 c3 x tys ty pos af d hk;generalize dA d.s.st d.bl=A,eH (gH d) d.s.st=W at *
 clear hin he hs hmw;obtain⟨s,den,bl,zn,gm,oh⟩:=d;simp only at *
 refine ax Proofs.Tryz.func97 ?_
 (refine cN 1 ?_;refine aU 1 ?_)
 refine iH O ?_;refine bH ?_;refine bC O (hB _ _ _ _ _ _ _ _ _ _ _ _ O ⟨O,O,trivial⟩ fun s1 g=>?_);refine aW ?_;refine G h1 ?_;refine H ?_;rw[hmw2];refine aT [(2,.ptr 2 1 0 0),(3,.ptr 3 1 0 0),(5,.als 1003 g 0 (A.map eS).length),(20,.sl (W.map eS)),(21,I W.length),(22,I ((0:Nat):Int))] [(2,1,⟨31,14,[cn ⟨s,den,bl,zn,gm,oh⟩],2⟩),(3,1,⟨42,4,[eR lv],2⟩),(1003,g,⟨136,7,A.map eS,1⟩)] ⟨O,O,O,O,O,O,O,O,O,trivial⟩ ?_;intro s2;refine ah (fun i:Nat=>i<=W.length) (fun i=>[(2,.ptr 2 1 0 0),(3,.ptr 3 1 0 0),(5,.als 1003 (g+i) 0 ((A++(W.take i).map (r7 p)).map eS).length),(20,.sl (W.map eS)),(21,I W.length),(22,I (i:Nat))]) (fun i=>[(2,1,⟨31,14,[cn ⟨s,den,bl,zn,gm,oh⟩],2⟩),(3,1,⟨42,4,[eR lv],2⟩),(1003,g+i,⟨136,7,(A++(W.take i).map (r7 p)).map eS,1⟩)]) (fun i=>W.length-i) 0 (aP _)
  ⟨O,O,by rw[eu,gY,b8];rfl,O,O,O,O,O,by rw[eu,gY,b8];rfl,trivial⟩ ?_
 intro i s3 hi;refine D ?_ ?_<;>intro h
 .have hlt:i<W.length:=by have:=aB h;omega
  clear h;obtain⟨x,hx⟩:=aC hlt;have hrow:(A++(W.take (i+1)).map (r7 p)).map eS=(A++(W.take i).map (r7 p)).map eS++[I x.x::(eR (ofQ p)++[.sl (x.k.S.map eN),.sl (x.k.M.map eR)])]:=by rw[yd hx,bc];rfl
  have hw:=fg i;have hll:((A++(W.take i).map (r7 p)).map eS).length<=80:=by rw[aR,bI,aR,bw];omega
  have hb:g+(i+1)=g+i+1:=O;generalize (A++(W.take i).map (r7 p)).map eS=R,ofQ p=Q at *
  refine aQ hx ?_;refine G h2 ?_;refine H ?_;refine ay (aY 1 O O O O O O O O O O O aH O ?_);refine H ?_;refine ay (bJ 1 O O O O O O O O O O O aH (by intro row hr;first|(simp at hr;subst hr;rfl)|simp at hr) O O aV aV ?_);refine H ?_;refine⟨i+1,hlt,J,O,O,?_,O,O,congrArg I hw,O,O,?_,trivial⟩
  .rw[hrow,hb];rfl
  .rw[hrow,hb];rfl
 have hie:i=W.length:=by have:=aE h;omega
 clear h;subst hie;rw[bb]
 (repeat ((fail_if_success (with_reducible refine da ?_));refine qy O ?_))
 refine am (Ghost.takeD (k:=1003) (t:=4) O O O) ?_;exact bW
theorem wt (a:AR)(x:Int)(hx:i64 x){z t:Rat}{n m:Nat}[ha:Va a z t n m](hn:n<=1000000)(hm:m<=1000000):aO 92 [.agg (eA a),I x] (.agg (eR (ofQ (z+t*(x:Rat))))):=by
 have hxz:Zb x:=aJ hx.1 hx.2;have hw:=db x hx;have h1:=i7 a.t (ofQ (x:Rat)) (hx:=ha.t) J Y;have v1:Vq (ofQ (t*(x:Rat))) (t*(x:Rat)) (m+1+4):=Vq.ofQ (h:=@HQ.mul _ _ (m+1) 4 ha.t.hq HQ.int);have h2:=eY a.z (ofQ (t*(x:Rat))) (hx:=ha.z) (hy:=v1) J J;obtain⟨az,at'⟩:=a;simp only at *
 generalize ofQ (z+t*(x:Rat))=X2,ofQ (t*(x:Rat))=X1,ofQ (x:Rat)=X0 at *
 refine ax Proofs.Tryz.func92 ?_;refine cO 8 [5,6,7,8,9,10,11,12] ?_;refine G hw ?_;refine G h1 ?_;refine G h2 ?_;exact bW
theorem ER {K:St->Prop}{s':St}{dd k1 k2 k3:Nat}{c1 c2 c3:Cont}{x y:Operand}{tys:Array TypeId}{ty:TypeId}{pos:String}{af:Array Edge}(s:SHP)(d:Nat)(hd1:1<=d)(hd2:d<=1000000000)(hk:∀t∈s.st,StOk t)(h40:s.st.length<=40)(hx:s'.ev x = .agg (fB s))(hy:s'.ev y=I (d:Nat))(ho:FitO s' [(1003,k1,c1),(1102,k2,c2),(1103,k3,c3)])
  (hK:∀(s1:St) (g:Nat),K (({ reg:=s'.reg,own:=(s1.over [] [(1005,g,⟨136,7,(eH d s.st).map eS,1⟩),(1003,k1,c1),(1102,k2,c2),(1103,k3,c3)]).own }:St).putR dd (.als 1005 g 0 ((eH d s.st).map eS).length))) :
  Sm Tryz.prog lay.get s' ⟨some dd,.call ⟨.value (.func 100),#[x,y],tys⟩,ty,pos,af,none⟩ K:=by
 have w0:=lN;have hml:((s.st.map eT).length:Int)=s.st.length:=ao;obtain⟨nm,len,st,light,it⟩:=s;simp only at *
 refine cS layOk O O Tryz.func100 O Y O O ?_;show PWP _ _ _ _ (bO s' (([x,y]:List Operand).map s'.ev++[]));rw[show(([x,y]:List Operand).map s'.ev++([]:List PV))=[.agg (fB ⟨nm,len,st,light,it⟩),I (d:Nat)] by simp[hx,hy]];rw[show bO s' [.agg (fB ⟨nm,len,st,light,it⟩),I (d:Nat)]=bO (s'.over [] [(1003,k1,c1),(1102,k2,c2),(1103,k3,c3)]) [.agg (fB ⟨nm,len,st,light,it⟩),I (d:Nat)] by rw[Fit.over (l:=[]) ho]];refine cN 2 ?_;refine am (Ghost.nilreg (k:=1005) (t:=5) 136 7 1 O O) ?_;refine H ?_;refine aT [(1,I (d:Nat)),(2,.ptr 2 ((s'.own 2).1+1) 0 0),(5,.als 1005 ((s'.own 1005).1+1) 0 0),(6,I ((0:Nat):Int))] [(2,(s'.own 2).1+1,⟨27,9,[fB ⟨nm,len,st,light,it⟩],2⟩),(1005,(s'.own 1005).1+1,⟨136,7,[],1⟩),(1003,k1,c1),(1102,k2,c2),(1103,k3,c3)] ⟨O,O,O,O,O,O,O,O,O,trivial⟩ ?_;generalize (s'.own 2).1+1=g2;generalize (s'.own 1005).1+1=g5;intro s0;refine ah (fun i:Nat=>i<=st.length) (fun i=>[(1,I (d:Nat)),(2,.ptr 2 g2 0 0),(5,.als 1005 (g5+i) 0 ((eH d (st.take i)).map eS).length),(6,I (i:Nat))]) (fun i=>[(2,g2,⟨27,9,[fB ⟨nm,len,st,light,it⟩],2⟩),(1005,g5+i,⟨136,7,(eH d (st.take i)).map eS,1⟩),(1003,k1,c1),(1102,k2,c2),(1103,k3,c3)]) (fun i=>st.length-i) 0 (aP _) ⟨O,O,O,O,O,O,O,O,O,trivial⟩ ?_;intro i s hi;refine H ?_;rw[hml];refine aS O ?_ ?_<;>intro h
 .have hlt:i<st.length:=by have:=aB h;omega
  clear h;obtain⟨t,hx⟩:=aC hlt;have ok:=hk t (bm hx);have hsn:=Dn (d:=d) hx;have hsl:(eH d (st.take i)).length<=40:=by rw[eH,aR,bw];omega
  have hw:=fg i;have e2:=(lQ t.L (by have:=ok.n;omega)).shared_of_fresh;have hmh:((t.H0.map eN).length:Int)=t.H0.length:=ao;have hmL:((t.L.map eN).length:Int)=t.L.length:=ao;have hn:=ok.n;have hh:=ok.h;have hsup:iI d t=⟨t.x,ofQ 0,⟨t.L,qD d t⟩⟩:=O;have hsll:=EV d t;have hge:=fun k (h:k<t.H0.length) x (hx:t.H0[k]? = some x)=>QF (d:=d) h hx;have hgz:=fun k (h:k=t.H0.length)=>QE (d:=d) (t:=t) h;generalize hS:eH d (st.take i)=S at *
  generalize hLL:qD d t=LL at *
  obtain⟨tx,tw,tL,tH⟩:=t;simp only at *
  refine aQ hx ?_;refine G e2 ?_;refine H ?_;refine aT [(1,I (d:Nat)),(2,.ptr 2 g2 0 0),(5,.als 1005 (g5+i) 0 (S.map eS).length),(6,I (i:Nat)),(7,.ptr 7 ((s.own 7).1+1) 0 0),(8,.ptr 8 ((s.own 8).1+1) 0 0),(9,I ((0:Nat):Int))] [(2,g2,⟨27,9,[fB ⟨nm,len,st,light,it⟩],2⟩),(1005,g5+i,⟨136,7,S.map eS,1⟩),(7,(s.own 7).1+1,⟨130,4,[eT ⟨tx,tw,tL,tH⟩],2⟩),(8,(s.own 8).1+1,⟨134,2,[[.sl (tL.map eN),.nil]],2⟩),(1003,k1,c1),(1102,k2,c2),(1103,k3,c3)] ⟨O,O,O,O,O,O,O,O,O,O,O,O,O,O,trivial⟩ ?_;generalize (s.own 7).1+1=g7;generalize (s.own 8).1+1=g8;intro s1;refine am (Ghost.nilcell (k:=300) (k0:=8) (i:=0) (j:=1) (row:=[.sl (tL.map eN),.nil]) 42 4 1 O O O O O O O) ?_;have hg3:∃g3,(s1.own 300).1+1=g3:=⟨_,O⟩;obtain⟨g3,hg3⟩:=hg3;refine ah (fun k:Nat=>k<=tL.length) (fun k=>[(1,I (d:Nat)),(2,.ptr 2 g2 0 0),(5,.als 1005 (g5+i) 0 (S.map eS).length),(6,I (i:Nat)),(7,.ptr 7 g7 0 0),(8,.ptr 8 g8 0 0),(9,I (k:Nat))])
   (fun k=>[(2,g2,⟨27,9,[fB ⟨nm,len,st,light,it⟩],2⟩),(1005,g5+i,⟨136,7,S.map eS,1⟩),(7,g7,⟨130,4,[eT ⟨tx,tw,tL,tH⟩],2⟩),(8,g8,⟨134,2,[[.sl (tL.map eN),.als 300 (g3+k) 0 ((LL.take k).map eR).length]],2⟩),(300,g3+k,⟨42,4,(LL.take k).map eR,1⟩),(1003,k1,c1),(1102,k2,c2),(1103,k3,c3)]) (fun k=>tL.length-k) 0 (aP _)
   ⟨O,O,O,O,O,O,O,O,O,O,by rw[<-hg3];rfl,by rw[<-hg3];rfl,O,O,O,trivial⟩ ?_
  clear hg3;intro k s2 hkl;refine H ?_;rw[hmL];refine aS O ?_ ?_<;>intro h
  .have hlk:k<tL.length:=by have:=aB h;omega
   clear h;have hwk:IntKind.i64.wrap (((k:Nat):Int)+1)=((k+1:Nat):Int):=by rw[wrap_i64 J J];omega
   have hkl2:((LL.take k).map eR).length<=1000:=by rw[aR,bw];omega
   have hrk:∀n,LL[k]? = some n->(LL.take (k+1)).map eR=(LL.take k).map eR++[eR n]:=fun n hn=>by rw[bS hn,bc];rfl
   have hb3:g3+(k+1)=g3+k+1:=O;generalize (LL.take k).map eR=E at *
   refine G w0 ?_;refine H ?_;rw[hmh];refine aS O ?_ ?_<;>intro h
   .have hlh:k<tH.length:=by have:=aB h;omega
    clear h;obtain⟨x,hm⟩:=aC hlh;have hxl:=ok.H0 x (bm hm);have hvl:0<=2*x*tw/\2*x*tw<=20000000000:=Bt hxl ok.w;obtain⟨v1,v2⟩:=hvl;have zv:Zb (2*x*tw):=aJ J J;have u1:=b_ (2*x*tw) ⟨J,J⟩;have u2:=yZ (ofQ ((2*x*tw:Int):Rat)) (hx:=Vq.ofQ (h:=HQ.int)) Y d hd1 hd2;rw[show ofQ (((2*x*tw:Int):Rat)*((d:Rat)/1000000000))=DF d tw x from O]at u2;have q1:IntKind.i64.wrap (2*x)=2*x:=wrap_i64 J J;have q2:IntKind.i64.wrap (2*x*tw)=2*x*tw:=wrap_i64 J J;have hrw:=hrk _ (hge k hlh x hm);generalize DF d tw x=n at *
    refine cO 12 [40,41,42,43,44,45,46,47,48,49,50,51] ?_;refine aQ hm ?_;refine H ?_;rw[q1];refine H ?_;rw[q2];refine sT O O O u1 O O ?_;refine G u2 ?_;refine H ?_;refine ay (aY 1 O O O O O O O O O O O aH O ?_);refine H ?_;refine ay (bJ 1 O O O O O O O O O O O aH (by intro row hr;first|(simp at hr;subst hr;rfl)|simp at hr) O O aV aV ?_);refine H ?_;refine⟨k+1,hlk,J,O,O,O,O,O,O,congrArg I hwk,O,O,O,?_,?_,O,O,O,trivial⟩
    .rw[hrw,hb3];rfl
    .rw[hrw,hb3];rfl
   .have hlh:k=tH.length:=by have:=aE h;omega
    clear h;have hrw:=hrk _ (hgz k hlh);generalize ofQ 0=n at *
    refine H ?_;refine ay (aY 1 O O O O O O O O O O O aH O ?_);refine H ?_;refine ay (bJ 1 O O O O O O O O O O O aH (by intro row hr;first|(simp at hr;subst hr;rfl)|simp at hr) O O aV aV ?_);refine H ?_;refine⟨k+1,hlk,J,O,O,O,O,O,O,congrArg I hwk,O,O,O,?_,?_,O,O,O,trivial⟩
    .rw[hrw,hb3];rfl
    .rw[hrw,hb3];rfl
  .have hke:k=tL.length:=by have:=aE h;omega
   clear h;subst hke;rw[cV (show LL.length<=tL.length by omega)];refine am (Ghost.freezeD (k:=300) (k0:=8) (i:=0) (j:=1) (row:=[.sl (tL.map eN),.als 300 (g3+tL.length) 0 (LL.map eR).length]) O O O O O O O O) ?_;refine H ?_;refine bj [64,1005] [6,7,8] aK ?_;refine G w0 ?_;refine H ?_;refine lr O O O (aY 1 O O O O O O O O O O O aH O ⟨gZ O,?_⟩);refine H ?_;refine lr O O O (bJ 1 O O O O O O O O O O O aH (by intro row hr;first|(simp at hr;subst hr;rfl)|(simp at hr;obtain⟨_,_,rfl⟩:=hr;rfl)|simp at hr) O O aV aV ⟨gZ O,?_⟩);refine H ?_;have hrow:(eH d (st.take (i+1))).map eS=S.map eS++[[I tx]++eR (ofQ 0)++[.sl (tL.map eN),.sl (LL.map eR)]]:=by
    rw[hsn,hsup];rfl
   refine⟨i+1,hlt,J,O,O,?_,congrArg I hw,O,?_,O,O,O,trivial⟩
   .rw[hrow];rfl
   .rw[hrow];rfl
 .have hie:i=st.length:=by have:=aE h;omega
  clear h;subst hie;rw[bb];refine H ?_;exact zP (K:=fun o r=>K (({ reg:=s'.reg,own:=o }:St).putR dd r)) [(1005,g5+st.length,⟨136,7,(eH d st).map eS,1⟩),(1003,k1,c1),(1102,k2,c2),(1103,k3,c3)] (.inl O) O O ⟨O,O,O,O,trivial⟩ (fun s1=>hK s1 _)
theorem CX {K:St->Prop}{s':St}{d k2 k3:Nat}{c2 c3:Cont}{x:Operand}{tys:Array TypeId}{ty:TypeId}{pos:String}{af:Array Edge}(k:DKR)(hk:k.Bl)(hx:s'.ev x = .agg (cn k))(ho:FitO s' [(1102,k2,c2),(1103,k3,c3)])
  (hK:∀(s1:St) (g:Nat),K (({ reg:=s'.reg,own:=(s1.over [] [(1003,g,⟨136,7,(dA k.s.st k.bl).map eS,1⟩),(1102,k2,c2),(1103,k3,c3)]).own }:St).putR d (.als 1003 g 0 ((dA k.s.st k.bl).map eS).length))) :
  Sm Tryz.prog lay.get s' ⟨some d,.call ⟨.value (.func 37),#[x],tys⟩,ty,pos,af,none⟩ K:=by
 have hml:(k.bl.map eBk).length=k.bl.length:=ao;obtain⟨hst,hn,hb,hm⟩:=hk;obtain⟨s,den,bl,zn,gm,oh⟩:=k;simp only at *
 refine cS layOk O O Tryz.func37 O Y O O ?_;show PWP _ _ _ _ (bO s' (([x]:List Operand).map s'.ev++[]));rw[show(([x]:List Operand).map s'.ev++([]:List PV))=[.agg (cn ⟨s,den,bl,zn,gm,oh⟩)] by simp[hx]];rw[show bO s' [.agg (cn ⟨s,den,bl,zn,gm,oh⟩)]=bO (s'.over [] [(1102,k2,c2),(1103,k3,c3)]) [.agg (cn ⟨s,den,bl,zn,gm,oh⟩)] by rw[Fit.over (l:=[]) ho]];refine cN 2 ?_;refine am (Ghost.nilreg (k:=1003) (t:=3) 136 7 1 O O) ?_;refine H ?_;refine aT [(1,.ptr 1 ((s'.own 1).1+1) 0 0),(3,.als 1003 ((s'.own 1003).1+1) 0 0),(4,I ((0:Nat):Int))] [(1,((s'.own 1).1+1),⟨31,14,[cn ⟨s,den,bl,zn,gm,oh⟩],2⟩),(1003,((s'.own 1003).1+1),⟨136,7,[],1⟩),(1102,k2,c2),(1103,k3,c3)] ⟨O,O,O,O,O,O,O,trivial⟩ ?_;generalize (s'.own 1).1+1=g1;generalize (s'.own 1003).1+1=g3;intro s0;refine ah (fun i:Nat=>i<=bl.length) (fun i=>[(1,.ptr 1 g1 0 0),(3,.als 1003 (g3+i) 0 ((dA s.st (bl.take i)).map eS).length),(4,I (i:Nat))])
  (fun i=>[(1,g1,⟨31,14,[cn ⟨s,den,bl,zn,gm,oh⟩],2⟩),(1003,g3+i,⟨136,7,(dA s.st (bl.take i)).map eS,1⟩),(1102,k2,c2),(1103,k3,c3)]) (fun i=>bl.length-i) 0 (aP _) ⟨O,O,O,O,O,O,O,trivial⟩ ?_
 intro i s1 hi;refine D ?_ ?_<;>intro h
 .have hlt:i<bl.length:=by have:=aB h;simp only[hml]at this;omega
  clear h;obtain⟨b,hx⟩:=aC hlt;obtain⟨hin,hsz⟩:=hb b (bm hx);have hrow:=si (st:=s.st) hx;have e0:=tM s b.x b.z hin.x hst hn;have hbi:=ou hst b;have hht:=hin.ht;rw[show(gc b.x b.z s.st).getD 0=iR s.st b from O]at e0;have hwh:IntKind.i64.wrap (b.ht-iR s.st b)=b.ht-iR s.st b:=wrap_i64 J J;have z2:Zb 2:=aJ Y Y;have e2:=ef b.st (by have:=hsz.1;omega) (by have:=hsz.2;omega);have hnq:Vq (ofQ b.st.val) b.st.val 13:=Vq.ofQ (h:=hsz.v.hq);have e3:=b_ 2 ⟨Y,Y⟩;have e4:=cy (ofQ b.st.val) (ofQ ((2:Int):Rat)) (hx:=hnq) Y Y;have e5:=b_ (b.ht-iR s.st b) ⟨J,J⟩;have hst1:b.side=false->ofQ (jZ b)=ofQ b.st.val:=fun h=>by rw[jZ,h,if_neg Y]
  have hst2:b.side=true->ofQ (jZ b)=ofQ (b.st.val*((2:Int):Rat)):=fun h=>by rw[jZ,h,if_pos O];rfl
  have hbS:eS (ny s.st b)=I b.x::(eR (ofQ ((b.ht-iR s.st b:Int):Rat))++[.sl [[I 0]],.sl [eR (ofQ (jZ b))]]):=O;have hw:=fg i;have hll:(dA s.st (bl.take i)).length<=40:=by rw[dA,aR,bw];omega
  clear hnq;generalize ny s.st b=bs,dA s.st (bl.take i)=Bl,(gc b.x b.z s.st).isSome=bo at *
  generalize hF:ofQ (jZ b)=F at *
  generalize iR s.st b=bt at *
  generalize ofQ ((b.ht-bt:Int):Rat)=C,ofQ (b.st.val*((2:Int):Rat))=F2,ofQ b.st.val=F1,ofQ ((2:Int):Rat)=W2 at *
  refine aQ hx ?_;refine G e2 ?_;refine H ?_;by_cases hsd:b.side=true
  .have hF2:=hst2 hsd;subst hF2;rw[hsd];refine cO 3 [26,27,28] ?_;refine G e3 ?_;refine G e4 ?_;refine aj e0 ?_;refine H ?_;refine bj [52,1003] [13,14,15] aK ?_;refine H ?_;rw[hwh];refine sT O O O e5 O O ?_;refine H ?_;refine cf O O (fw O O O O O O O O O O aH O) ?_;refine H ?_;refine cf O O (dH O O O O O O O O O O aH O) ?_;refine H ?_;refine lr O O O (aY 1 O O O O O O O O O O O aH O ⟨gZ O,?_⟩);refine H ?_;refine lr O O O (bJ 1 O O O O O O O O O O O aH (by intro row hr;first|(simp at hr;subst hr;rfl)|(simp at hr;obtain⟨_,_,rfl⟩:=hr;rfl)|simp at hr) O O aV aV ⟨gZ O,?_⟩);refine H ?_;have hr2:(dA s.st (bl.take (i+1))).map eS=Bl.map eS++[I b.x::(eR C++[.sl [[I 0]],.sl [eR F]])]:=by rw[hrow,bc,<-hbS];rfl
   refine⟨i+1,hlt,J,O,?_,congrArg I hw,O,?_,O,O,trivial⟩
   .rw[hr2];rfl
   .rw[hr2];rfl
  .have hsd:b.side=false:=by simpa using hsd
   have hF1:=hst1 hsd;subst hF1;rw[hsd];refine aj e0 ?_;refine H ?_;refine bj [52,1003] [13,14,15] aK ?_;refine H ?_;rw[hwh];refine sT O O O e5 O O ?_;refine H ?_;refine cf O O (fw O O O O O O O O O O aH O) ?_;refine H ?_;refine cf O O (dH O O O O O O O O O O aH O) ?_;refine H ?_;refine lr O O O (aY 1 O O O O O O O O O O O aH O ⟨gZ O,?_⟩);refine H ?_;refine lr O O O (bJ 1 O O O O O O O O O O O aH (by intro row hr;first|(simp at hr;subst hr;rfl)|(simp at hr;obtain⟨_,_,rfl⟩:=hr;rfl)|simp at hr) O O aV aV ⟨gZ O,?_⟩);refine H ?_;have hr2:(dA s.st (bl.take (i+1))).map eS=Bl.map eS++[I b.x::(eR C++[.sl [[I 0]],.sl [eR F]])]:=by rw[hrow,bc,<-hbS];rfl
   refine⟨i+1,hlt,J,O,?_,congrArg I hw,O,?_,O,O,trivial⟩
   .rw[hr2];rfl
   .rw[hr2];rfl
 .have hie:i=bl.length:=by have:=aE h;simp only[hml]at this;omega
  clear h;subst hie;rw[bb];refine H ?_;exact zP (K:=fun o r=>K (({ reg:=s'.reg,own:=o }:St).putR d r)) [(1003,g3+bl.length,⟨136,7,(dA s.st bl).map eS,1⟩),(1102,k2,c2),(1103,k3,c3)] (.inl O) O O ⟨O,O,O,trivial⟩ (fun s1=>hK s1 _)
theorem DN (F:List RR)(hl:F.length<=1000000):aO 136 [.sl (F.map eR)] (.sl (F.map eR)):=by
 refine ax Proofs.Tryz.func136 ?_
 (refine cN 1 ?_;refine aU 1 ?_)
 refine iH O ?_;refine bH ?_;refine bC O (tg layOk O O O (fun h0=>?_) ?_)
 .rw[h0];refine aW ?_
  (repeat ((fail_if_success (with_reducible refine da ?_));refine qy O ?_))
  refine am (Ghost.nilfs (t:=2) O) ?_;exact bW
 .refine aW ?_;refine H ?_;refine ay (aY 1 O O O O O O O O O O O aH O ?_);refine H ?_;refine ay (bJ 1 O O O O O O O O O O O aH (by intro row hr;obtain⟨p,_,rfl⟩:=bX.1 hr;rfl) O O aV aV ?_)
  (repeat ((fail_if_success (with_reducible refine da ?_));refine qy O ?_))
  refine am (Ghost.takeD (k:=5) (t:=2) O O O) ?_;exact bW
def lJ (q:Int × Int)(x:Int):Int × Int:=if q.2=0\/x≠q.1 then(x,q.2+1) else q
def nh:List BKR->List Rat->List Int
 |b::l,q::v=>if q≠0 then b.x::nh l v else nh l v
 |_,_=>[]
def pg (l:List Int):Int × Int:=l.foldl lJ (0,0)
def kH (bl:List BKR)(v:List Rat)(b:Rat):Int:=if (pg (nh bl v)).2=0 then 0 else if (pg (nh bl v)).2=1 then 1 else if b=0 then 3 else 2
theorem ww:∀ {bl:List BKR} {v:List Rat} {k:Nat} {b:BKR} {q:Rat},bl[k]? = some b->v[k]? = some q->nh (bl.take (k+1)) (v.take (k+1))=nh (bl.take k) (v.take k)++(if q≠0 then [b.x] else [])
 |[],_,k,b,q,h,_=>by simp at h
 |c::bl,[],k,b,q,_,h=>by simp at h
 |c::bl,p::v,0,b,q,h1,h2=>by
  simp at h1 h2;subst h1 h2;simp[nh]
 |c::bl,p::v,k+1,b,q,h1,h2=>by
  have ih:=ww (bl:=bl) (v:=v) (k:=k) (b:=b) (q:=q) (by simpa using h1) (by simpa using h2);rw[jW,jW,jW,jW,nh,nh,ih];split<;>simp
theorem KR (l:List Int):0<=(pg l).2/\(pg l).2<=l.length:=by
 have key:∀(l:List Int) (q:Int × Int),0<=q.2->0<=(l.foldl lJ q).2/\(l.foldl lJ q).2<=q.2+l.length:=by
  intro l
  induction l with
  |nil=>intro q h;simp;omega
  |cons x l ih =>
   intro q h;have h1:0<=(lJ q x).2/\(lJ q x).2<=q.2+1:=by
    rw[lJ];split
    .exact⟨show 0<=q.2+1 by omega,oM _⟩
    .exact⟨h,J⟩
   have:=ih (lJ q x) h1.1;rw[gX,eO];omega
 have:=key l (0,0) Y;simpa [pg] using this
theorem FS:∀(bl:List BKR) (v:List Rat),(nh bl v).length<=v.length
 |[],v=>by simp[nh]
 |_::_,[]=>by simp[nh]
 |b::bl,q::v=>by
  have:=FS bl v;rw[nh];split<;>simp<;>omega
theorem CF (l:List Int)(x:Int):pg (l++[x])=lJ (pg l) x:=by rw[pg,pg,j8];rfl
theorem Ic (d:DKR)(v:List Rat)(hl:v.length<=d.bl.length)(hm:v.length<=1000)(hv:∀q∈v,hq q 7000000)(b:Rat)(hb:hq b 7000000):aO 139 [.agg (cn d),.sl ((v.map ofQ).map eR),.agg (eR (ofQ b))] (I (kH d.bl v b)):=by
 have hml:((v.map ofQ).map eR).length=v.length:=ao;have sb:=y7 (ofQ b) (hx:=Vq.ofQ (h:=⟨hb⟩)) Y;have hbz:=gy b;generalize hf:kH d.bl v b=E;obtain⟨s,den,bl,zn,gm,oh⟩:=d;simp only at *
 refine ax Proofs.Tryz.func139 ?_;refine H ?_;rw[hml];refine ah (fun i:Nat=>i<=v.length) (fun i=>[(1,.sl ((v.map ofQ).map eR)),(3,.ptr 3 1 0 0),(5,.ptr 5 1 0 0),(7,I (pg (nh (bl.take i) (v.take i))).1),(8,I (pg (nh (bl.take i) (v.take i))).2),(11,.sl ((v.map ofQ).map eR)),(12,I v.length),(13,I (i:Nat))])
  (fun _=>[(3,1,⟨31,14,[cn ⟨s,den,bl,zn,gm,oh⟩],2⟩),(5,1,⟨42,4,[eR (ofQ b)],2⟩)]) (fun i=>v.length-i) 0 (aP _) ⟨O,O,O,by rw[eu,eu];rfl,by rw[eu,eu];rfl,O,O,O,O,O,trivial⟩ ?_
 intro i s1 hi;refine D ?_ ?_<;>intro h
 .have hlt:i<v.length:=by have:=aB h;omega
  clear h;obtain⟨q,hq⟩:=aC hlt;obtain⟨c,hc⟩:=aC (show i<bl.length by omega);have hx:(v.map ofQ)[i]? = some (ofQ q):=by rw[bD,hq];rfl
  have sq:=y7 (ofQ q) (hx:=Vq.ofQ (h:=⟨hv q (bm hq)⟩)) Y;have hqz:=gy q;have hsn:=ww hc hq;have hple:=KR (nh (bl.take i) (v.take i));have hpl2:=FS (bl.take i) (v.take i);rw[bw]at hpl2;have hw:=fg i;have hwp:IntKind.i64.wrap ((pg (nh (bl.take i) (v.take i))).2+1)=(pg (nh (bl.take i) (v.take i))).2+1:=wrap_i64 J J;have hph:=CF (nh (bl.take i) (v.take i)) c.x;rw[lJ]at hph;clear hple hpl2;generalize nh (bl.take i) (v.take i)=A at *
  generalize hAn:(pg A).2=P at *
  generalize hAx:(pg A).1=X at *
  generalize sgn q=g,ofQ q=qq at *
  refine aQ hx ?_;refine aj sq ?_;refine H ?_;by_cases h0:g=0
  .have hq0:=hqz.1 h0;subst h0;refine H ?_;refine⟨i+1,hlt,J,O,O,O,?_,?_,O,O,congrArg I hw,O,O,trivial⟩
   .rw[hsn,if_neg (by simpa using hq0),b8,hAx];rfl
   .rw[hsn,if_neg (by simpa using hq0),b8,hAn];rfl
  have hq0:q≠0:=fun e=>h0 (hqz.2 e);rw[if_pos hq0]at hsn;rw[decide_eq_false h0];refine H ?_;by_cases hP:P=0
  .rw[if_pos (.inl hP)]at hph;rw[decide_eq_true hP];refine aQ hc ?_;refine H ?_;rw[hwp];refine⟨i+1,hlt,J,O,O,O,?_,?_,O,O,congrArg I hw,O,O,trivial⟩
   .rw[hsn,hph];rfl
   .rw[hsn,hph];rfl
  rw[decide_eq_false hP];refine aQ hc ?_;refine D ?_ ?_<;>intro h
  .have hX:c.x≠X:=by simpa using h
   clear h;rw[if_pos (.inr hX)]at hph;refine aQ hc ?_;refine H ?_;rw[hwp];refine⟨i+1,hlt,J,O,O,O,?_,?_,O,O,congrArg I hw,O,O,trivial⟩
   .rw[hsn,hph];rfl
   .rw[hsn,hph];rfl
  .have hX:c.x=X:=by simpa using h
   clear h;rw[if_neg (fun e=>e.elim hP fun e=>e hX)]at hph;refine H ?_;refine⟨i+1,hlt,J,O,O,O,?_,?_,O,O,congrArg I hw,O,O,trivial⟩
   .rw[hsn,hph,hAx];rfl
   .rw[hsn,hph,hAn];rfl
 have hie:i=v.length:=by have:=aE h;omega
 clear h;subst hie;have hA:nh (bl.take v.length) (v.take v.length)=nh bl v:=by
  rw[bb];have key:∀(v:List Rat) (bl:List BKR),nh (bl.take v.length) v=nh bl v:=by
   intro v
   induction v with
   |nil=>intro bl;cases bl<;>simp[nh]
   |cons q v ih=>intro bl;cases bl with
    |nil=>simp[nh]
    |cons b bl=>simp only[eO,jW,nh,ih]
  exact key v bl
 rw[hA];rw[kH]at hf;generalize (pg (nh bl v)).1=X,(pg (nh bl v)).2=P at *
 clear hA;refine H ?_;by_cases h0:P=0
 .rw[if_pos h0]at hf;rw[decide_eq_true h0];subst hf;exact co
 rw[if_neg h0]at hf;rw[decide_eq_false h0];refine H ?_;by_cases h1:P=1
 .rw[if_pos h1]at hf;rw[decide_eq_true h1];subst hf;exact co
 rw[if_neg h1]at hf;rw[decide_eq_false h1];refine aj sb ?_;refine H ?_;by_cases h2:b=0
 .rw[if_pos h2]at hf;rw[decide_eq_true (hbz.2 h2)];subst hf;exact co
 .rw[if_neg h2]at hf;rw[decide_eq_false (fun e=>h2 (hbz.1 e))];subst hf;exact co
structure STQ where
 km:RR
 kg:RR
 gm:RR
 ot:RR
def DE (x:STQ):List PV:=eR x.km++eR x.kg++eR x.gm++eR x.ot
def Ox:STQ:=⟨RR.zero,RR.zero,RR.zero,RR.zero⟩
structure DQ where
 lv:RR
 a:AR
 F:List RR
 up:RR
 bu:RR
 s:STQ
 held:Bool
 ph:Int
def fk (x:DQ):List PV:=eR x.lv++eA x.a++[.sl (x.F.map eR)]++eR x.up++eR x.bu++DE x.s++[.bool x.held,I x.ph]
def xN:List PV:=zN++zN++zN++zN
def Mt:List PV:=zN++(zN++zN)++[.nil]++zN++zN++xN++[.bool false,I 0]
def dZ:DQ:=⟨RR.zero,zA,[],RR.zero,RR.zero,Ox,false,0⟩
theorem xO:WeakL xN (DE Ox):=((ff.app ff).app ff).app ff
theorem od:WeakL Mt (fk dZ):=((((((ff.app (ff.app ff)).app (.cons .nil .nil)).app ff).app ff).app xO).app (WeakL.refl _))
def bB (l:List Rat):Rat:=l.foldl (·+·) 0
theorem l_ (l:List Rat)(x:Rat):bB (l++[x])=bB l+x:=by rw[bB,j8];rfl
theorem tk {N:Nat}{l:List Rat}(h:∀q∈l,hq q N):hq (bB l) ((N+1)*l.length+4):=by
 have key:∀(l:List Rat) (a:Rat) (m:Nat),hq a m->(∀q∈l,hq q N)->hq (l.foldl (·+·) a) (m+(N+1)*l.length):=by
  intro l
  induction l with
  |nil=>intro a m ha _;simpa using ha
  |cons x l ih =>
   intro a m ha hl;rw[gX,eO];have:=ih (a+x) (m+N+1) (@HQ.add a x m N ⟨ha⟩ ⟨hl x gU⟩).ok fun q hq=>hl q (iB _ hq);rwa [show m+N+1+(N+1)*l.length=m+(N+1)*(l.length+1) by rw[cq];omega]at this
 have:=key l 0 4 HQ.zero.ok h;rwa [k8]at this
def eJ:List BKR->List Rat->Bool
 |b::l,q::v=>(b.side&&decide (q≠0))||eJ l v
 |_,_=>false
theorem pQ:∀ {bl:List BKR} {v:List Rat} {k:Nat} {b:BKR} {q:Rat},bl[k]? = some b->v[k]? = some q->eJ bl (v.take (k+1))=(eJ bl (v.take k)||(b.side&&decide (q≠0)))
 |[],_,k,b,q,h,_=>by simp at h
 |c::bl,[],k,b,q,_,h=>by simp at h
 |c::bl,p::v,0,b,q,h1,h2=>by
  simp at h1 h2;subst h1 h2;cases bl<;>simp[eJ]
 |c::bl,p::v,k+1,b,q,h1,h2=>by
  have ih:=pQ (bl:=bl) (v:=v) (k:=k) (b:=b) (q:=q) (by simpa using h1) (by simpa using h2);rw[jW,jW,eJ,eJ,ih,Bool.or_assoc]
theorem ky:∀ {bl:List BKR} {v:List Rat} {k:Nat},bl.length<=k->eJ bl (v.take k)=eJ bl v
 |[],v,k,_=>by simp[eJ]
 |c::bl,[],k,_=>by simp
 |c::bl,p::v,0,h=>by simp at h
 |c::bl,p::v,k+1,h=>by rw[jW,eJ,eJ,ky (by simpa using h)]
def R9 (p az at':RR)(F:List (List PV))(u b:RR)(h:Bool):List PV:=eR p++(eR az++eR at')++[.sl F]++eR u++eR b++xN++[.bool h,I 0]
def PG (d:DKR)(p:Rat)(a:AR)(v:List Rat)(s:STQ):DQ :=
 ⟨ofQ p,a,(v.take d.bl.length).map ofQ,ofQ (bB (v.take d.bl.length)),ofQ (bB (v.drop d.bl.length)),s,eJ d.bl v,kH d.bl (v.take d.bl.length) (bB (v.drop d.bl.length))⟩
theorem E6 (d:DKR)(lv:RR){p:Rat}(hsup:aO 97 [.agg (cn d),.agg (eR lv)] (.sl ((dU d p).map eS)))(B:BR)(e:Int)(he:e≠0)(h95:aO 95 [.agg (fB d.s),.sl ((dU d p).map eS)] (.tup [.agg (eB B),I e])) :
  aO 74 [.agg (cn d),.agg (eR lv)] (.tup [.agg (fk dZ),I e]):=by
 refine Ret.weak (r' := .tup [.agg Mt,I e]) ?_ (WeakL.refl _) (WeakL.tup (.cons od.agg (WeakL.refl _)));generalize (dU d p).map eS=W at *
 obtain⟨s,den,bl,zn,gm,oh⟩:=d;simp only at *
 refine ax Proofs.Tryz.func74 ?_;refine H ?_;refine fT [(9,6),(10,6)] aK aK ?_;refine G hsup ?_;refine G h95 ?_;refine H ?_;refine GW O O O O O ?_;refine Fi 2 O O O O O O (fun _=>rfl) aH O O O O ?_;refine D ?_ ?_<;>intro h
 .clear h;exact bW
 .simp at h;exact absurd h he
theorem E5 (d:DKR)(lv:RR){p:Rat}(hsup:aO 97 [.agg (cn d),.agg (eR lv)] (.sl ((dU d p).map eS)))(B:BR)(h95:aO 95 [.agg (fB d.s),.sl ((dU d p).map eS)] (.tup [.agg (eB B),I 0]))
  (Q:SQ) (he:Q.e≠0) (h78:aO 78 [.agg (eB B)] Q.pv):aO 74 [.agg (cn d),.agg (eR lv)] (.tup [.agg (fk dZ),I Q.e]):=by
 refine Ret.weak (r' := .tup [.agg Mt,I Q.e]) ?_ (WeakL.refl _) (WeakL.tup (.cons od.agg (WeakL.refl _)));generalize (dU d p).map eS=W at *
 obtain⟨s,den,bl,zn,gm,oh⟩:=d;obtain⟨⟨az,at'⟩,F,⟨rz,rt⟩,e⟩:=Q;simp only[SQ.pv]at *
 refine ax Proofs.Tryz.func74 ?_;refine H ?_;refine fT [(9,6),(10,6)] aK aK ?_;refine G hsup ?_;refine G h95 ?_;refine H ?_;refine GW O O O O O ?_;refine Fi 2 O O O O O O (fun _=>rfl) aH O O O O ?_;refine G h78 ?_;refine D ?_ ?_<;>intro h
 .clear h;exact bW
 .simp at h;exact absurd h he
set_option maxHeartbeats 16000000 in
theorem Dh (d:DKR)(lv:RR){p:Rat}{n:Nat}[hlv:Vq lv p n](hn:n<=1000000)(hsup:aO 97 [.agg (cn d),.agg (eR lv)] (.sl ((dU d p).map eS)))(B:BR)(h95:aO 95 [.agg (fB d.s),.sl ((dU d p).map eS)] (.tup [.agg (eB B),I 0]))
  (az at' rz rt:RR) (v:List Rat) (hv:∀q∈v,hq q 100000) (hvl:d.bl.length<=v.length) (hv64:v.length<=64) (h78:aO 78 [.agg (eB B)] (.tup [.agg (su ⟨az,at'⟩ (v.map ofQ)),.agg (eR rz++eR rt),I 0])) (T:STQ)
  {nz:Nat} {z:Rat} [hz:Vq az z nz] (hnz:nz<=1000000)
  (hT:bB (v.drop d.bl.length)≠0->aO 138 [.agg (fB d.s),.agg (eR (ofQ (z+p))++eR at'),.agg ([I d.d]++eR (ofQ (bB (v.take d.bl.length))))] (.tup [.agg (DE T),I 0])) (hT0:bB (v.drop d.bl.length)=0->T=Ox) :
  aO 74 [.agg (cn d),.agg (eR lv)] (.tup [.agg (fk (PG d p ⟨az,at'⟩ v T)),I 0]):=by
 have e1:=RA lv (hx:=hlv) J;have e2:=DN ((v.take d.bl.length).map ofQ) (by rw[aR,bw];omega);have e3:=jd 0 ⟨Y,Y⟩;rw[show((0:Int):Rat)=0 from O]at e3;have e4:=eY az lv (hx:=hz) (hy:=hlv) J J;have hvt:∀i,∀q∈v.take i,hq q 100000:=fun i q hq=>hv q (d9 hq);have hs1:∀i,hq (bB ((v.take i).take d.bl.length)) 6500000:=fun i=>by
  have:=tk (N:=100000) (l:=(v.take i).take d.bl.length) fun q hq=>hvt i q (d9 hq);refine(HQ.mono (q:=bB ((v.take i).take d.bl.length)) (h:=⟨this⟩) ?_).ok;rw[bw,bw];have:min d.bl.length (min i v.length)<=64:=J;have:=dw (100000+1) this;omega
 have hs2:∀i,hq (bB ((v.take i).drop d.bl.length)) 6500000:=fun i=>by
  have:=tk (N:=100000) (l:=(v.take i).drop d.bl.length) fun q hq=>hvt i q (my hq);refine(HQ.mono (q:=bB ((v.take i).drop d.bl.length)) (h:=⟨this⟩) ?_).ok;rw[gV,bw];have:min i v.length-d.bl.length<=64:=J;have:=dw (100000+1) this;omega
 have hp:=Ic d (v.take d.bl.length) (by rw[bw];omega) (by rw[bw];omega) (fun q hq=>(HQ.mono (q:=q) (h:=⟨hvt _ q hq⟩) Y).ok) (bB (v.drop d.bl.length)) (by
  have:=hs2 v.length;rw[bb]at this
  exact(HQ.mono (q:=bB (v.drop d.bl.length)) (h:=⟨this⟩) Y).ok)
 have hsg:=y7 (ofQ (bB (v.drop d.bl.length))) (hx:=Vq.ofQ (h:=⟨by have:=hs2 v.length;rwa [bb]at this⟩)) Y;have hsz:=gy (bB (v.drop d.bl.length));have hml:((v.map ofQ).map eR).length=v.length:=ao;have hmb:(d.bl.map eBk).length=d.bl.length:=ao;have htk:(v.take d.bl.length).map ofQ=(v.map ofQ).take d.bl.length:=kZ;rw[PG];obtain⟨s,den,bl,zn,gm,oh⟩:=d;simp only at *
 obtain⟨R,hR0,hR1,hRw⟩:∃R,(bB (v.drop bl.length)=0->R=xN)/\(bB (v.drop bl.length)≠0->R=DE T)/\WeakL R (DE T):=by
  by_cases h:bB (v.drop bl.length)=0
  .exact⟨xN,fun _=>rfl,fun g=>absurd h g,by rw[hT0 h];exact xO⟩
  .exact⟨DE T,fun g=>absurd g h,fun _=>rfl,WeakL.refl _⟩
 refine Ret.weak (r' := .tup [.agg (eR (ofQ p)++(eR az++eR at')++[.sl (((v.take bl.length).map ofQ).map eR)]++eR (ofQ (bB (v.take bl.length)))++eR (ofQ (bB (v.drop bl.length)))++R++[.bool (eJ bl v),I (kH bl (v.take bl.length) (bB (v.drop bl.length)))]),I 0]) ?_ (WeakL.refl _) (WeakL.tup (.cons (((WeakL.refl _).app hRw).app (WeakL.refl _)).agg (WeakL.refl _)));clear hRw hT0;generalize hW:(dU ⟨s,den,bl,zn,gm,oh⟩ p).map eS=W at *
 generalize kH bl (v.take bl.length) (bB (v.drop bl.length))=PH at *
 generalize hQp:ofQ p=Qp at *
 generalize hQz:ofQ (z+p)=Qz at *
 clear hW;refine ax Proofs.Tryz.func74 ?_;refine H ?_;refine fT [(9,6),(10,6)] aK aK ?_;refine G hsup ?_;refine G h95 ?_;refine H ?_;refine GW O O O O O ?_;refine Fi 2 O O O O O O (fun _=>rfl) aH O O O O ?_;refine G h78 ?_;refine H ?_;refine be [(13,11),(14,11)] aK aK ?_;refine G e1 ?_;refine H ?_;rw[hmb];refine cf O O (sS (l:=v.map ofQ) (enc:=eR) (n:=((bl.length:Nat):Int)) O O O O O J (by rw[aR];omega) (fun _=>rfl)) ?_;rw[br,<-htk];refine G e2 ?_;refine G e3 ?_;refine G e3 ?_;refine H ?_;rw[hml];have z0:eJ bl (v.take 0)=false:=by cases bl<;>rfl
 have z1:bB ((v.take 0).take bl.length)=0:=by rw[eu,List.take_nil];rfl
 have z2:bB ((v.take 0).drop bl.length)=0:=by rw[eu,List.drop_nil];rfl
 refine aT [(2,.ptr 2 1 0 0),(3,.ptr 3 1 0 0),(4,.ptr 4 1 0 0),(8,.ptr 8 1 0 0),(10,I bl.length),(11,.ptr 11 1 0 0),(55,.sl ((v.map ofQ).map eR)),(56,I v.length),(57,I ((0:Nat):Int))] [(2,1,⟨31,14,[cn ⟨s,den,bl,zn,gm,oh⟩],2⟩),(3,1,⟨42,4,[eR lv],2⟩),(4,1,⟨50,39,[Mt],2⟩),(8,1,⟨69,9,[su ⟨az,at'⟩ (v.map ofQ)],2⟩),(11,1,⟨50,39,[R9 Qp az at' (((v.take bl.length).map ofQ).map eR) (ofQ 0) (ofQ 0) false],2⟩)] ⟨O,O,O,O,O,O,O,O,O,O,O,O,O,O,trivial⟩ ?_;intro s0;refine ah (fun i:Nat=>i<=v.length) (fun i=>[(2,.ptr 2 1 0 0),(3,.ptr 3 1 0 0),(4,.ptr 4 1 0 0),(8,.ptr 8 1 0 0),(10,I bl.length),(11,.ptr 11 1 0 0),(55,.sl ((v.map ofQ).map eR)),(56,I v.length),(57,I (i:Nat))]) (fun i=>[(2,1,⟨31,14,[cn ⟨s,den,bl,zn,gm,oh⟩],2⟩),(3,1,⟨42,4,[eR lv],2⟩),(4,1,⟨50,39,[Mt],2⟩),(8,1,⟨69,9,[su ⟨az,at'⟩ (v.map ofQ)],2⟩),(11,1,⟨50,39,[R9 Qp az at' (((v.take bl.length).map ofQ).map eR) (ofQ (bB ((v.take i).take bl.length))) (ofQ (bB ((v.take i).drop bl.length))) (eJ bl (v.take i))],2⟩)]) (fun i=>v.length-i) 0 (aP _) ⟨O,O,O,O,O,O,O,O,O,O,O,O,O,by rw[z0,z1,z2];rfl,trivial⟩ ?_;clear z1 z2;intro i s1 hi;refine D ?_ ?_<;>intro h
 .have hlt:i<v.length:=by have:=aB h;omega
  clear h;obtain⟨q,hq⟩:=aC hlt;have hx:(v.map ofQ)[i]? = some (ofQ q):=by rw[bD,hq];rfl
  have hqs:=hv q (bm hq);have sq:=y7 (ofQ q) (hx:=Vq.ofQ (h:=⟨hqs⟩)) Y;have hqz:=gy q;have a1:=eY (ofQ (bB ((v.take i).take bl.length))) (ofQ q) (hx:=Vq.ofQ (h:=⟨hs1 i⟩)) (hy:=Vq.ofQ (h:=⟨hqs⟩)) Y Y;have a2:=eY (ofQ (bB ((v.take i).drop bl.length))) (ofQ q) (hx:=Vq.ofQ (h:=⟨hs2 i⟩)) (hy:=Vq.ofQ (h:=⟨hqs⟩)) Y Y;have hw:=fg i;have htn:v.take (i+1)=v.take i++[q]:=bS hq;have hil:(v.take i).length=i:=by rw[bw];omega
  refine aQ hx ?_;refine D ?_ ?_<;>intro h
  .have hin:i<bl.length:=by have:=aB h;omega
   clear h;obtain⟨c,hc⟩:=aC hin;have hu:bB ((v.take (i+1)).take bl.length)=bB ((v.take i).take bl.length)+q:=by rw[htn,show(v.take i++[q]).take bl.length=v.take i++[q] from cV (by rw[bI,hil];exact hin),show(v.take i).take bl.length=v.take i from cV J,l_]
   have hb:bB ((v.take (i+1)).drop bl.length)=bB ((v.take i).drop bl.length):=by rw[htn,show(v.take i++[q]).drop bl.length=[] from pZ (by rw[bI,hil];exact hin),show(v.take i).drop bl.length=[] from pZ J]
   have hh:=pQ hc hq;generalize bB ((v.take i).take bl.length)=U,bB ((v.take i).drop bl.length)=Bq,eJ bl (v.take i)=H0 at *
   generalize hU2:ofQ (U+q)=U2 at *
   generalize ofQ U=U1 at *
   generalize hB1:ofQ Bq=B1 at *
   generalize sgn q=g1 at *
   refine G a1 ?_;refine H ?_;cases H0
   rotate_left
   .refine H ?_;exact⟨i+1,hlt,J,O,O,O,O,O,O,O,O,congrArg I hw,O,O,O,O,by rw[hu,hb,hh,hU2,hB1];rfl,trivial⟩
   refine aQ hc ?_;refine H ?_;cases hsd:c.side
   .rw[hsd]at hh;refine H ?_;exact⟨i+1,hlt,J,O,O,O,O,O,O,O,O,congrArg I hw,O,O,O,O,by rw[hu,hb,hh,hU2,hB1];rfl,trivial⟩
   rw[hsd]at hh;refine aj sq ?_;refine H ?_;by_cases h0:g1=0
   .rw[decide_eq_false (show ¬q≠0 from fun g=>g (hqz.1 h0))]at hh;subst h0;refine H ?_;exact⟨i+1,hlt,J,O,O,O,O,O,O,O,O,congrArg I hw,O,O,O,O,by rw[hu,hb,hh,hU2,hB1];rfl,trivial⟩
   .rw[decide_eq_true (show q≠0 from fun g=>h0 (hqz.2 g))]at hh;rw[decide_eq_false h0];refine H ?_;exact⟨i+1,hlt,J,O,O,O,O,O,O,O,O,congrArg I hw,O,O,O,O,by rw[hu,hb,hh,hU2,hB1];rfl,trivial⟩
  .have hin:bl.length<=i:=by have:=aE h;omega
   clear h;have hu:bB ((v.take (i+1)).take bl.length)=bB ((v.take i).take bl.length):=by rw[htn,FY J]
   have hb:bB ((v.take (i+1)).drop bl.length)=bB ((v.take i).drop bl.length)+q:=by rw[htn,z6 J,l_]
   have hh:eJ bl (v.take (i+1))=eJ bl (v.take i):=by rw[ky J,ky hin]
   generalize bB ((v.take i).take bl.length)=U,bB ((v.take i).drop bl.length)=Bq,eJ bl (v.take i)=H0 at *
   generalize hB2:ofQ (Bq+q)=B2 at *
   generalize hU1:ofQ U=U1 at *
   generalize ofQ Bq=B1 at *
   refine G a2 ?_;refine H ?_;exact⟨i+1,hlt,J,O,O,O,O,O,O,O,O,congrArg I hw,O,O,O,O,by rw[hu,hb,hh,hU1,hB2];rfl,trivial⟩
 have hie:i=v.length:=by have:=aE h;omega
 clear h;subst hie;rw[bb];clear hs1 hs2 hvt hml z0;generalize bB (v.take bl.length)=U at *
 generalize hBq:bB (v.drop bl.length)=Bq at *
 generalize eJ bl v=H0,sgn Bq=g1,ofQ U=U1,ofQ Bq=B1 at *
 generalize hFL:(v.take bl.length).map ofQ=FL at *
 refine aj hsg ?_;refine H ?_;by_cases h0:g1=0
 .have hB0:=hsz.1 h0;have hRe:=hR0 hB0;subst hRe;rw[decide_eq_true h0];refine aj hp ?_;exact bW
 .have hB0:Bq≠0:=fun e=>h0 (hsz.2 e);have hRe:=hR1 hB0;have hTr:=hT hB0;clear hT;subst hRe;rw[decide_eq_false h0];refine cN 18 ?_;refine am (fp 14) ?_;refine be [(9,14),(10,14)] aK aK ?_;refine G e4 ?_;refine G hTr ?_;refine aj hp ?_;exact bW
theorem Pz (d:DKR)(hd:d.Ok)(he:gF d≠0)(lv:RR):aO 21 [.agg (cn d),.agg (eR lv)] (.tup [.agg (fk dZ),I (gF d)]):=by
 have h1:=jq d hd;refine Ret.weak (r' := .tup [.agg Mt,I (gF d)]) ?_ (WeakL.refl _) (WeakL.tup (.cons od.agg (WeakL.refl _)));generalize gF d=e at *
 refine ax Proofs.Tryz.func21 ?_;refine aj h1 ?_;refine D ?_ ?_<;>intro h
 .clear h;exact bW
 .simp at h;exact absurd h he
theorem Jh (d:DKR)(hd:d.Ok)(hE:gF d=0)(lv:RR)(x:DQ)(e:Int)(h74:aO 74 [.agg (cn d),.agg (eR lv)] (.tup [.agg (fk x),I e])):aO 21 [.agg (cn d),.agg (eR lv)] (.tup [.agg (fk x),I e]):=by
 have h1:=jq d hd;rw[hE]at h1;refine ax Proofs.Tryz.func21 ?_;refine aj h1 ?_;refine G h74 ?_;exact bW
def kT:List Rat->Rat
 |[]=>0
 |q::l=>l.foldl (fun m x=>if m<x then x else m) q
theorem HV (l:List Rat)(x:Rat)(h:l≠[]):kT (l++[x])=if kT l<x then x else kT l:=by
 cases l with
 |nil=>exact absurd rfl h
 |cons q l=>rw[uC,kT,kT,j8];rfl
def g_ (z t:Rat)(s:SR):Rat:=s.c.val+(z+t*(s.x:Rat))
def EJ (W:List SR)(z t:Rat)(i:Nat):List PV:=if i=0 then zN else eR (ofQ (kT ((W.take i).map (g_ z t))))
theorem Kq:∀(l:List Rat),l≠[]->kT l∈l
 |[],h=>absurd rfl h
 |q::l,_=>by
  rw[kT];have key:∀(l:List Rat) (a:Rat),l.foldl (fun m x=>if m<x then x else m) a∈a::l:=by
   intro l
   induction l with
   |nil=>intro a;simp
   |cons x l ih =>
    intro a;rw[gX];have:=ih (if a<x then x else a);rcases cG.1 this with h|h
    .rw[h];split<;>simp
    .exact iB _ (iB _ h)
  exact key l q
theorem Mi (d:DKR)(hd:d.Ok)(hE:gF d=0)(hk:d.Bl)(hb:d.bl≠[])(az at' rz rt:RR)(F:List RR){z t:Rat}{n m:Nat}[ha:Va ⟨az,at'⟩ z t n m](hn:n<=1000000)(hm:m<=1000000)
  (h31:aO 31 [.agg (fB d.s),I d.d] (.tup [.agg (su ⟨az,at'⟩ F),.agg (eR rz++eR rt),I 0])):aO 30 [.agg (cn d)] (.tup [.agg (eR (ofQ (kT ((dA d.s.st d.bl).map (g_ z t))))),I 0]):=by
 have h1:=jq d hd;rw[hE]at h1;have h2:=DM d hk;have hml:(d.bl.map eBk).length=d.bl.length:=ao;have hpos:=oD.2 hb;have hbl:¬((d.bl.map eBk).length:Int)=0:=J;have hwl:(dA d.s.st d.bl).length=d.bl.length:=by rw[dA,aR]
 have h40:=hk.m;have hC:∀s∈dA d.s.st d.bl,i64 s.x/\hq s.c.val 4/\Vq s.c s.c.val 4:=fun s hs=>by
  rw[dA]at hs;obtain⟨b,hbm,rfl⟩:=bX.1 hs;obtain⟨hin,-⟩:=hk.b b hbm;have hx:=hin.x;have hh:=hin.ht;have hbi:=ou hk.st b;have zb:Zb (b.ht-iR d.s.st b):=aJ J J;refine⟨⟨by show -9223372036854775808<=b.x;omega,by show b.x<=9223372036854775807;omega⟩,?_,?_⟩
  .show hq (ofQ ((b.ht-iR d.s.st b:Int):Rat)).val 4;rw[ofQ_val];exact HQ.int.ok
  .show Vq (ofQ ((b.ht-iR d.s.st b:Int):Rat)) (ofQ ((b.ht-iR d.s.st b:Int):Rat)).val 4;rw[ofQ_val];exact Vq.ofQ (h:=HQ.int)
 have hW0:dA d.s.st d.bl≠[]:=fun e=>by rw[e]at hwl;simp at hwl;omega
 have hmw:((dA d.s.st d.bl).map eS).length=(dA d.s.st d.bl).length:=ao;obtain⟨s,den,bl,zn,gm,oh⟩:=d;simp only at *
 generalize dA s.st bl=W at *
 have hvh:∀s∈W,hq (g_ z t s) (n+m+20):=fun s hs=>by
  obtain⟨hx,hc,-⟩:=hC s hs;have zb:Zb s.x:=aJ hx.1 hx.2;exact(HQ.mono (h:=@HQ.add _ _ 4 (n+1+(m+1+4)+1) ⟨hc⟩ (@HQ.add _ _ (n+1) (m+1+4) ha.z.hq (@HQ.mul _ _ (m+1) 4 ha.t.hq HQ.int))) J).ok
 refine ax Proofs.Tryz.func30 ?_;refine aj h1 ?_;refine H ?_;rw[decide_eq_false hbl];refine G h31 ?_;refine G h2 ?_;refine H ?_;rw[hmw];refine aT [(2,.ptr 2 1 0 0),(5,.ptr 5 1 0 0),(8,.ptr 8 1 0 0),(37,.sl (W.map eS)),(38,I W.length),(39,I ((0:Nat):Int))] [(2,1,⟨42,4,[zN],2⟩),(5,1,⟨69,9,[su ⟨az,at'⟩ F],2⟩),(8,1,⟨42,4,[zN],2⟩)] ⟨O,O,O,O,O,O,O,O,O,trivial⟩ ?_;intro s0;refine ah (fun i:Nat=>i<=W.length) (fun i=>[(2,.ptr 2 1 0 0),(5,.ptr 5 1 0 0),(8,.ptr 8 1 0 0),(37,.sl (W.map eS)),(38,I W.length),(39,I (i:Nat))]) (fun i=>[(2,1,⟨42,4,[zN],2⟩),(5,1,⟨69,9,[su ⟨az,at'⟩ F],2⟩),(8,1,⟨42,4,[EJ W z t i],2⟩)]) (fun i=>W.length-i) 0 (aP _) ⟨O,O,O,O,O,O,O,O,O,trivial⟩ ?_;intro i s1 hi;refine D ?_ ?_<;>intro h
 .have hlt:i<W.length:=by have:=aB h;omega
  clear h;obtain⟨x,hx⟩:=aC hlt;obtain⟨hxx,hxc,hxv⟩:=hC x (bm hx);have zb:Zb x.x:=aJ hxx.1 hxx.2;have hxq:=hvh x (bm hx);have e1:=wt ⟨az,at'⟩ x.x hxx (z:=z) (t:=t) (n:=n) (m:=m) hn hm;have e2:=eY x.c (ofQ (z+t*(x.x:Rat))) (hx:=hxv) (hy:=Vq.ofQ (h:=@HQ.add _ _ (n+1) (m+1+4) ha.z.hq (@HQ.mul _ _ (m+1) 4 ha.t.hq HQ.int))) J J;rw[show x.c.val+(z+t*(x.x:Rat))=g_ z t x from O]at e2;have hw:=fg i;have hsn:(W.take (i+1)).map (g_ z t)=(W.take i).map (g_ z t)++[g_ z t x]:=by rw[bS hx,bc];rfl
  have hr1:EJ W z t (i+1)=eR (ofQ (kT ((W.take (i+1)).map (g_ z t)))):=by rw[EJ,if_neg J]
  cases i with
  |zero =>
   have hm1:kT ((W.take (0+1)).map (g_ z t))=g_ z t x:=by rw[hsn];rfl
   rw[hm1]at hr1;generalize ofQ (g_ z t x)=X,ofQ (z+t*(x.x:Rat))=Y0 at *
   refine aQ hx ?_;refine cN 13 ?_;refine am (fp 11) ?_;refine be [(8,11),(9,11)] aK aK ?_;refine G e1 ?_;refine G e2 ?_;refine H ?_;exact⟨0+1,hlt,J,O,O,O,O,O,congrArg I hw,O,O,by rw[hr1];rfl,trivial⟩
  |succ i =>
   have hr0:EJ W z t (i+1)=eR (ofQ (kT ((W.take (i+1)).map (g_ z t)))):=by rw[EJ,if_neg J]
   have hne:(W.take (i+1)).map (g_ z t)≠[]:=fun e=>by
    have:=congrArg List.length e;rw[aR,bw,List.length_nil]at this;omega
   have hmm:=Kq _ hne;have hms:=HV _ (g_ z t x) hne;rw[<-hsn]at hms;have hMq:hq (kT ((W.take (i+1)).map (g_ z t))) (n+m+20):=by
    obtain⟨y,hy,hye⟩:=bX.1 hmm;rw[<-hye];exact hvh y (d9 hy)
   have e3:=kw (ofQ (g_ z t x)) (ofQ (kT ((W.take (i+1)).map (g_ z t)))) (hx:=Vq.ofQ (h:=⟨hxq⟩)) (hy:=Vq.ofQ (h:=⟨hMq⟩)) J J;have hsg:=fP (g_ z t x-kT ((W.take (i+1)).map (g_ z t)));have hgt:0<g_ z t x-kT ((W.take (i+1)).map (g_ z t))↔kT ((W.take (i+1)).map (g_ z t))<g_ z t x:=by constructor<;>intro h<;>grind
   rw[hgt]at hsg;rw[hr0];rw[hms]at hr1;clear hms hgt hmm hMq;generalize hM:kT ((W.take (i+1)).map (g_ z t))=M at *
   generalize hX:ofQ (g_ z t x)=X at *
   generalize ofQ (z+t*(x.x:Rat))=Y0,sgn (g_ z t x-M)=g at *
   generalize hMM:ofQ M=MM at *
   refine aQ hx ?_;refine cN 13 ?_;refine am (fp 11) ?_;refine be [(8,11),(9,11)] aK aK ?_;refine G e1 ?_;refine G e2 ?_;refine H ?_;have hi0:¬(((i+1:Nat):Int))=0:=J;rw[decide_eq_false hi0];refine aj e3 ?_;refine D ?_ ?_<;>intro h
   .have hg:=hsg.1 (aB h);clear h;rw[if_pos hg]at hr1;refine H ?_;exact⟨i+1+1,hlt,J,O,O,O,O,O,congrArg I hw,O,O,by rw[hr1,hX];rfl,trivial⟩
   .have hg:¬M<g_ z t x:=fun e=>(aE h) (hsg.2 e);clear h;rw[if_neg hg]at hr1;refine H ?_;exact⟨i+1+1,hlt,J,O,O,O,O,O,congrArg I hw,O,O,by rw[hr1,hMM];rfl,trivial⟩
 have hie:i=W.length:=by have:=aE h;omega
 clear h;subst hie;have hr:EJ W z t W.length=eR (ofQ (kT (W.map (g_ z t)))):=by rw[EJ,if_neg J,bb]
 rw[hr];generalize ofQ (kT (W.map (g_ z t)))=X at *
 exact bW
def h_ (x:Int):SR:=⟨x,ofQ 0,⟨[0,3000],[ofQ ((80:Int):Rat),ofQ 0]⟩⟩
def jp (x:Int):SR:=⟨x,ofQ ((1500:Int):Rat),⟨[0],[ofQ ((1000:Int):Rat)]⟩⟩
def r1:BR:=⟨320000,ofQ ((10000:Int):Rat),[h_ 5000,h_ 15000]⟩
def r2:BR:=⟨320000,ofQ ((10000:Int):Rat),[jp 5000,jp 15000,h_ 5000,h_ 15000]⟩
theorem OV:(ofQ 0).sz 12:=pU (z:=0) ⟨Y,Y⟩
theorem GT {x:Int}(hx:i64 x):(h_ x).Lim:=by
 refine⟨hx,OV,⟨fun z hz=>?_,fun m hm=>?_,show 2<=1000000000 by decide,show 2<=1000000000 by decide⟩⟩
 .simp[h_]at hz;rcases hz with rfl|rfl<;>exact⟨Y,Y⟩
 .simp only[h_,cG,iC,or_false]at hm;rcases hm with rfl|rfl
  .exact pU ⟨Y,Y⟩
  .exact OV
theorem MI {x:Int}(hx:i64 x):(jp x).Lim:=by
 refine⟨hx,pU ⟨Y,Y⟩,⟨fun z hz=>?_,fun m hm=>?_,show 1<=1000000000 by decide,show 1<=1000000000 by decide⟩⟩
 .simp[jp]at hz;subst hz;exact⟨Y,Y⟩
 .simp only[jp,kX]at hm;subst hm;exact pU ⟨Y,Y⟩
theorem IS (x:Int):eL (h_ x).k=0:=by
 have h:j2 (h_ x).k 0=0:=by
  rw[j2,if_neg,if_neg J];simp only[h_,Al,ofQ_val];decide
 have h1:j2 (h_ x).k 1=0:=by
  rw[j2,if_neg,if_neg]
  .simp[h_]
  .simp only[h_,Al,List.getD_cons_succ,ofQ_val];decide
 rw[eL,if_neg (show ¬40<(h_ x).k.S.length by simp[h_]),if_neg (show ¬(h_ x).k.M.length≠(h_ x).k.S.length by simp[h_])];show iT (h_ x).k 0 2=0;rw[iT,if_pos h,iT,if_pos h1,iT]
theorem He (x:Int):eL (jp x).k=0:=by
 have h:j2 (jp x).k 0=0:=by
  rw[j2,if_neg,if_neg J];simp only[jp,Al,ofQ_val];decide
 rw[eL,if_neg (show ¬40<(jp x).k.S.length by simp[jp]),if_neg (show ¬(jp x).k.M.length≠(jp x).k.S.length by simp[jp])];show iT (jp x).k 0 1=0;rw[iT,if_pos h,iT]
theorem GJ {s:SR}(hx : -1000000<=s.x/\s.x<=1000000)(hc : -10000000<=s.c.val/\s.c.val<=10000000)(hk:eL s.k=0):rU s=0:=by
 rw[rU,if_neg,hk];rw[show((10000000:Int):Rat)=10000000 from O];rintro(h|h)
 .omega
 .grind
theorem vi {x:Int}(hx : -1000000<=x/\x<=1000000):rU (h_ x)=0:=GJ hx (by show -10000000<=(ofQ 0).val/\(ofQ 0).val<=10000000;rw[ofQ_val];decide) (IS x)
theorem Ft {x:Int}(hx : -1000000<=x/\x<=1000000):rU (jp x)=0:=GJ hx (by show -10000000<=(ofQ ((1500:Int):Rat)).val/\(ofQ ((1500:Int):Rat)).val<=10000000;rw[ofQ_val];decide) (He x)
theorem K4:dG r1=0:=by
 rw[dG,if_neg]
 .rw[dV,if_neg Y];show fE rU [h_ 5000,h_ 15000]=0;rw[fE,if_pos (vi ⟨Y,Y⟩),fE,if_pos (vi ⟨Y,Y⟩),fE]
 .simp only[r1,ofQ_val];decide
theorem K5:dG r2=0:=by
 rw[dG,if_neg]
 .rw[dV,if_neg Y];show fE rU [jp 5000,jp 15000,h_ 5000,h_ 15000]=0;rw[fE,if_pos (Ft ⟨Y,Y⟩),fE,if_pos (Ft ⟨Y,Y⟩),fE,if_pos (vi ⟨Y,Y⟩),fE,if_pos (vi ⟨Y,Y⟩),fE]
 .simp only[r2,ofQ_val];decide
theorem OY:r1.Ok:=by
 refine⟨⟨⟨Y,Y⟩,pU ⟨Y,Y⟩,fun s hs=>?_,Y⟩,K4,Y,fun s hs=>?_⟩
 .simp only[r1,cG,iC,or_false]at hs;rcases hs with rfl|rfl<;>exact GT ⟨Y,Y⟩
 .simp only[r1,cG,iC,or_false]at hs;rcases hs with rfl|rfl<;>decide
theorem O7:r2.Ok:=by
 refine⟨⟨⟨Y,Y⟩,pU ⟨Y,Y⟩,fun s hs=>?_,Y⟩,K5,Y,fun s hs=>?_⟩
 .simp only[r2,cG,iC,or_false]at hs;rcases hs with rfl|rfl|rfl|rfl<;>first|exact GT ⟨Y,Y⟩|exact MI ⟨Y,Y⟩
 .simp only[r2,cG,iC,or_false]at hs;rcases hs with rfl|rfl|rfl|rfl<;>decide
def wf (y:Rat):Rat:=if y<0 then 0 else if y<3000 then 80*y else 240000
def kf (y:Rat):Rat:=if y<0 then 0 else 1000*y
theorem t_ (x:Int)(z t:Rat):fQ (h_ x) z t=wf (z+t*(x:Rat)):=by
 rw[fQ,kR];show aq (fU (h_ x).k.s (h_ x).k.m (yQ (h_ x) z t)) 2=_;rw[aq,aq,aq,fU,fU,yQ,cE,cE];show 0+(if (ofQ 0).val+(z+t*(x:Rat))-((0:Int):Rat)<0 then 0 else((ofQ ((80:Int):Rat)).val-0)*((ofQ 0).val+(z+t*(x:Rat))-((0:Int):Rat)))+(if (ofQ 0).val+(z+t*(x:Rat))-((3000:Int):Rat)<0 then 0 else((ofQ 0).val-(ofQ ((80:Int):Rat)).val)*((ofQ 0).val+(z+t*(x:Rat))-((3000:Int):Rat)))=_;simp only[ofQ_val];rw[show((0:Int):Rat)=0 from O,show((80:Int):Rat)=80 from O,show((3000:Int):Rat)=3000 from O,wf];grind
theorem Hf (x:Int)(z t:Rat):fQ (jp x) z t=kf (1500+(z+t*(x:Rat))):=by
 rw[fQ,kR];show aq (fU (jp x).k.s (jp x).k.m (yQ (jp x) z t)) 1=_;rw[aq,aq,fU,yQ,cE];show 0+(if (ofQ ((1500:Int):Rat)).val+(z+t*(x:Rat))-((0:Int):Rat)<0 then 0 else((ofQ ((1000:Int):Rat)).val-0)*((ofQ ((1500:Int):Rat)).val+(z+t*(x:Rat))-((0:Int):Rat)))=_;simp only[ofQ_val];rw[show((0:Int):Rat)=0 from O,show((1000:Int):Rat)=1000 from O,show((1500:Int):Rat)=1500 from O,kf];grind
theorem n5:((5000:Int):Rat)=5000:=rfl
theorem OQ:((15000:Int):Rat)=15000:=rfl
theorem CS (z t:Rat):(bd r1).F z t=wf (z+t*5000)+wf (z+t*15000):=by
 have e:(bd r1).F z t=(0+fQ (h_ 5000) z t)+fQ (h_ 15000) z t:=O;rw[e,t_,t_,n5,OQ];grind
theorem RQ (z t:Rat):(bd r1).G0 z t=wf (z+t*5000)*5000+wf (z+t*15000)*15000:=by
 have e:(bd r1).G0 z t=(0+fQ (h_ 5000) z t*((5000:Int):Rat))+fQ (h_ 15000) z t*((15000:Int):Rat):=O;rw[e,t_,t_,n5,OQ];grind
theorem CU (z t:Rat):(bd r2).F z t=kf (1500+(z+t*5000))+kf (1500+(z+t*15000))+wf (z+t*5000)+wf (z+t*15000):=by
 have e:(bd r2).F z t=(((0+fQ (jp 5000) z t)+fQ (jp 15000) z t)+fQ (h_ 5000) z t)+fQ (h_ 15000) z t:=O;rw[e,t_,t_,Hf,Hf,n5,OQ];grind
theorem RY (z t:Rat):(bd r2).G0 z t=kf (1500+(z+t*5000))*5000+kf (1500+(z+t*15000))*15000+wf (z+t*5000)*5000+wf (z+t*15000)*15000:=by
 have e:(bd r2).G0 z t=(((0+fQ (jp 5000) z t*((5000:Int):Rat))+fQ (jp 15000) z t*((15000:Int):Rat))+fQ (h_ 5000) z t*((5000:Int):Rat))+fQ (h_ 15000) z t*((15000:Int):Rat):=O;rw[e,t_,t_,Hf,Hf,n5,OQ];grind
theorem A6:(bd r1).w=320000:=rfl
theorem A7:(bd r2).w=320000:=rfl
theorem RP:(bd r1).A=10000:=by show(ofQ ((10000:Int):Rat)).val=10000;rw[ofQ_val];rfl
theorem RX:(bd r2).A=10000:=by show(ofQ ((10000:Int):Rat)).val=10000;rw[ofQ_val];rfl
theorem OX:(bd r1).Least 2000 0:=⟨by rw[CS,A6];simp only[wf,kf];grind,fun z' h=>by rw[CS,A6];simp only[wf,kf];grind⟩
theorem RW:(bd r1).Least (-4000) 1:=⟨by rw[CS,A6];simp only[wf,kf];grind,fun z' h=>by rw[CS,A6];simp only[wf,kf];grind⟩
theorem RU:(bd r1).Least 16000 (-1):=⟨by rw[CS,A6];simp only[wf,kf];grind,fun z' h=>by rw[CS,A6];simp only[wf,kf];grind⟩
theorem OZ:(bd r2).Least (-1340) 0:=⟨by rw[CU,A7];simp only[wf,kf];grind,fun z' h=>by rw[CU,A7];simp only[wf,kf];grind⟩
theorem R6:(bd r2).Least (-16180) 1:=⟨by rw[CU,A7];simp only[wf,kf];grind,fun z' h=>by rw[CU,A7];simp only[wf,kf];grind⟩
theorem R5:(bd r2).Least 3820 (-1):=⟨by rw[CU,A7];simp only[wf,kf];grind,fun z' h=>by rw[CU,A7];simp only[wf,kf];grind⟩
theorem Qo {z t:Rat}(h:(bd r1).Least z t):(bd r1).E t=wf (z+t*5000)*5000+wf (z+t*15000)*15000-320000*10000:=by
 rw[Bd.E,Bd.sg_eq h,Bd.e,RQ,A6,RP]
theorem Qt {z t:Rat}(h:(bd r2).Least z t):(bd r2).E t=kf (1500+(z+t*5000))*5000+kf (1500+(z+t*15000))*15000+wf (z+t*5000)*5000+wf (z+t*15000)*15000-320000*10000:=by
 rw[Bd.E,Bd.sg_eq h,Bd.e,RY,A7,RX]
theorem Kr {b:Bd}{z:Rat}(hl:b.Least z 0)(h0:b.E 0=0)(hm:b.E (-1)<0)(hp:0<b.E 1):b.eqQ 1=some (z,0):=by
 have d1:b.dbl (-1) 1 1=some 1:=by
  rw[Bd.dbl,if_neg];rw[show(-1:Rat)*1 = -1 by grind];grind
 have d2:b.dbl 1 1 1=some 1:=by
  rw[Bd.dbl,if_neg];rw[show(1:Rat)*1=1 by grind];grind
 have a0:b.at1 0=some (z,0):=by
  rw[Bd.at1,if_pos h0,Bd.sg_eq hl]
 rw[Bd.eqQ,d1,d2];dsimp only;rw[Bd.fst3,a0]
theorem RS:(bd r1).eqQ 1=some (2000,0):=Kr OX (by rw[Qo OX];simp only[wf,kf];grind) (by rw[Qo RU];simp only[wf,kf];grind) (by rw[Qo RW];simp only[wf,kf];grind)
theorem RZ:(bd r2).eqQ 1=some (-1340,0):=Kr OZ (by rw[Qt OZ];simp only[wf,kf];grind) (by rw[Qt R5];simp only[wf,kf];grind) (by rw[Qt R6];simp only[wf,kf];grind)
theorem Qq:(bd r1).Bal 2000 0:=by
 have e:(bd r1).F 2000 0=(bd r1).w/\(bd r1).G0 2000 0=(bd r1).w*(bd r1).A:=by
  rw[CS,RQ,A6,RP];simp only[wf,kf];constructor<;>grind
 exact e
theorem Qu:(bd r2).Bal (-1340) 0:=by
 have e:(bd r2).F (-1340) 0=(bd r2).w/\(bd r2).G0 (-1340) 0=(bd r2).w*(bd r2).A:=by
  rw[CU,RY,A7,RX];simp only[wf,kf];constructor<;>grind
 exact e
theorem Pm (y:Rat):0<=wf y:=by rw[wf];grind
theorem RT (t:Rat):∃z,(bd r1).w<=(bd r1).F z t:=by
 refine⟨3000+15000*(if t<0 then -t else t),?_⟩;rw[CS,A6];simp only[wf,kf];grind
theorem R4 (t:Rat):∃z,(bd r2).w<=(bd r2).F z t:=by
 refine⟨15000*(if t<0 then -t else t),?_⟩;have h1:=Pm (15000*(if t<0 then -t else t)+t*5000);have h2:=Pm (15000*(if t<0 then -t else t)+t*15000);rw[CU,A7];simp only[wf,kf];grind
theorem CT (t:Rat):(pl r1.l t).length<=19:=by
 rw[pl];show((om t (h_ 5000))++((om t (h_ 15000))++[])).length<=19;rw[om,om];simp[h_]
theorem CW (t:Rat):(pl r2.l t).length<=19:=by
 rw[pl];show((om t (jp 5000))++((om t (jp 15000))++((om t (h_ 5000))++((om t (h_ 15000))++[])))).length<=19;rw[om,om,om,om];simp[h_,jp]
theorem Ig:cZ r1.l=[5000,15000]:=by
 rw[cZ];have:fV (r1.l.map (·.x))=[5000,15000]:=List.mergeSort_of_pairwise Y;rw[this];decide
theorem Ii:cZ r2.l=[5000,15000]:=by
 rw[cZ];have:fV (r2.l.map (·.x))=[5000,5000,15000,15000]:=by
  show List.mergeSort [5000,15000,5000,15000] _=_;simp[List.mergeSort,List.MergeSort.Internal.splitInTwo,List.merge]
 rw[this];decide
theorem yI {s:SR}{z t A B k:Rat}(hr:rV s z t=k)(hl:lV s z t=k)(hk:k≠0)(h:A+B*(s.x:Rat)≠0):yH z t A B s=false:=by
 rw[yH,decide_eq_false];intro hn;apply hn;rw[hr,hl];rcases dD (0<A+B*(s.x:Rat)) with g|g
 .exact .inl ⟨g,hk⟩
 .exact .inr ⟨bM,hk⟩
theorem Mn {x:Int}{A B:Rat}(h:A+B*(x:Rat)≠0):yH 2000 0 A B (h_ x)=false:=by
 have e:yQ (h_ x) 2000 0=2000:=by
  show(ofQ 0).val+(2000+0*(x:Rat))=2000;rw[ofQ_val];grind
 have m:cE (h_ x).k.m 1=80:=by
  show(ofQ ((80:Int):Rat)).val=80;rw[ofQ_val];rfl
 refine yI (k:=80) ?_ ?_ Y h
 .show cE (h_ x).k.m (tJ (h_ x).k.s (yQ (h_ x) 2000 0) 2)=80;rw[e,tJ,if_neg (by show ¬((3000:Int):Rat)<=2000;decide),tJ,if_pos (by show((0:Int):Rat)<=2000;decide),m]
 .show cE (h_ x).k.m (yL (h_ x).k.s (yQ (h_ x) 2000 0) 2)=80;rw[e,yL,if_neg (by show ¬((3000:Int):Rat)<2000;decide),yL,if_pos (by show((0:Int):Rat)<2000;decide),m]
theorem Jj {x:Int}{A B:Rat}(h:A+B*(x:Rat)≠0):yH (-1340) 0 A B (jp x)=false:=by
 have e:yQ (jp x) (-1340) 0=160:=by
  show(ofQ ((1500:Int):Rat)).val+(-1340+0*(x:Rat))=160;rw[ofQ_val,show((1500:Int):Rat)=1500 from O];grind
 have m:cE (jp x).k.m 1=1000:=by
  show(ofQ ((1000:Int):Rat)).val=1000;rw[ofQ_val];rfl
 refine yI (k:=1000) ?_ ?_ Y h
 .show cE (jp x).k.m (tJ (jp x).k.s (yQ (jp x) (-1340) 0) 1)=1000;rw[e,tJ,if_pos (by show((0:Int):Rat)<=160;decide),m]
 .show cE (jp x).k.m (yL (jp x).k.s (yQ (jp x) (-1340) 0) 1)=1000;rw[e,yL,if_pos (by show((0:Int):Rat)<160;decide),m]
theorem NH {A B:Rat}(h:A+B*5000≠0\/A+B*15000≠0):ng r1.l 2000 0 A B=false:=by
 show(yH 2000 0 A B (h_ 5000)&&(yH 2000 0 A B (h_ 15000)&&true))=false;rcases h with h|h
 .rw[Mn (x:=5000) (by rw[n5];exact h),eP]
 .rw[Mn (x:=15000) (by rw[OQ];exact h),eP,iU]
theorem NI {A B:Rat}(h:A+B*5000≠0\/A+B*15000≠0):ng r2.l (-1340) 0 A B=false:=by
 show(yH (-1340) 0 A B (jp 5000)&&(yH (-1340) 0 A B (jp 15000)&&(yH (-1340) 0 A B (h_ 5000)&&(yH (-1340) 0 A B (h_ 15000)&&true))))=false;rcases h with h|h
 .rw[Jj (x:=5000) (by rw[n5];exact h),eP]
 .rw[Jj (x:=15000) (by rw[OQ];exact h),eP,iU]
theorem yD {b:BR}{z:Rat}(hp:cZ b.l=[5000,15000])(hf:∀A B:Rat,(A+B*5000≠0\/A+B*15000≠0)->ng b.l z 0 A B=false):nK b z 0=false:=by
 rw[nK,Au];intro d hd;have key:∀A B:Int,(A+B*5000≠0\/A+B*15000≠0)->¬ng b.l z 0 (ofQ (A:Rat)).val (ofQ (B:Rat)).val=true:=by
  intro A B h;rw[ofQ_val,ofQ_val,hf]
  .decide
  .have e1:(A:Rat)+(B:Rat)*5000=((A+B*5000:Int):Rat):=by push_cast;rfl
   have e2:(A:Rat)+(B:Rat)*15000=((A+B*15000:Int):Rat):=by push_cast;rfl
   rw[e1,e2];rcases h with h|h
   .exact .inl fun hc=>h (mr.1 (show((A+B*5000:Int):Rat)=((0:Int):Rat) from hc))
   .exact .inr fun hc=>h (mr.1 (show((A+B*15000:Int):Rat)=((0:Int):Rat) from hc))
 rw[nF,f_,hp]at hd;simp at hd;rcases hd with rfl|rfl|rfl|rfl|rfl|rfl
 .exact key (-5000) 1 Y
 .exact key (-15000) 1 Y
 .exact key 5000 (-1) Y
 .exact key 15000 (-1) Y
 .exact key 1 0 Y
 .exact key (-1) 0 Y
theorem If:FL r1.l 2000 0=[ofQ 160000,ofQ 160000]:=by
 show [ofQ (fQ (h_ 5000) 2000 0),ofQ (fQ (h_ 15000) 2000 0)]=_;rw[t_,t_,n5,OQ,wf,wf];congr 2
 .grind
 .congr 2;grind
theorem Ih:FL r2.l (-1340) 0=[ofQ 160000,ofQ 160000,ofQ 0,ofQ 0]:=by
 show [ofQ (fQ (jp 5000) (-1340) 0),ofQ (fQ (jp 15000) (-1340) 0),ofQ (fQ (h_ 5000) (-1340) 0),ofQ (fQ (h_ 15000) (-1340) 0)]=_;rw[t_,t_,Hf,Hf,n5,OQ,show kf (1500+(-1340+0*5000))=160000 by rw[kf];grind,show kf (1500+(-1340+0*15000))=160000 by rw[kf];grind,show wf (-1340+0*5000)=0 by rw[wf];grind,show wf (-1340+0*15000)=0 by rw[wf];grind]
theorem Gd (b:BR)(hb:b.Ok){z:Int}(hz:i64 z){F:List RR}(h19:∀t,(pl b.l t).length<=19)(hex:∀t,∃z,(bd b).w<=(bd b).F z t)(heq:(bd b).eqQ 1=some ((z:Rat),0))(hbal:(bd b).Bal (z:Rat) 0)(ht:nK b (z:Rat) 0=false)(hF:FL b.l (z:Rat) 0=F) :
  aO 78 [.agg (eB b)] (.tup [.agg (su ⟨ofQ (z:Rat),ofQ 0⟩ F),.agg (zN++zN),I 0]):=by
 have hn:=Hd hb hbal;have h93:=tN b hb;rw[nR,if_neg (by rw[hn.1];decide),Ap.2 (fun r hr=>by rw[hn.2 r hr];decide)]at h93;have h120:=yt b hb (fun t=>bL (h19 t) Y) (fun t=>NV _ (h19 t)) hex (N:=1) Y heq;have va:Va ⟨ofQ (z:Rat),ofQ 0⟩ (z:Rat) 0 4 4:=⟨Vq.ofQ (h:=⟨x5 z hz⟩),Vq.ofQ (h:=HQ.zero.mono Y)⟩;have h121:=yB b hb ⟨ofQ (z:Rat),ofQ 0⟩ (ha:=va) Y;rw[ht]at h121;have h23:=pP b.l hb.lim.l hb.chkL ⟨ofQ (z:Rat),ofQ 0⟩ (ha:=va) Y;rw[hF]at h23;exact y9 b hb.lim hb.chk h93 _ _ h120 h121 h23
theorem Qs:aO 78 [.agg (eB r1)] (.tup [.agg (su ⟨ofQ ((2000:Int):Rat),ofQ 0⟩ [ofQ 160000,ofQ 160000]),.agg (zN++zN),I 0]) :=
 Gd r1 OY ⟨Y,Y⟩ CT RT RS Qq (yD Ig fun _ _=>NH) If
theorem Qv:aO 78 [.agg (eB r2)] (.tup [.agg (su ⟨ofQ ((-1340:Int):Rat),ofQ 0⟩ [ofQ 160000,ofQ 160000,ofQ 0,ofQ 0]),.agg (zN++zN),I 0]) :=
 Gd r2 O7 ⟨Y,Y⟩ CW R4 RZ Qu (yD Ii fun _ _=>NI) Ih
def SF (s:SHP)(d:Nat):BR:=wB s (eH d s.st)
theorem PE (d:Nat)(l:List ST):(eH d l).map xY=eH d l:=by
 rw[eH,jM];refine dC fun t _=>?_;show xY (iI d t)=iI d t;rw[xY,iI];show(⟨t.x,qC (ofQ 0),⟨t.L,(qD d t).map qC⟩⟩:SR)=_;rw[nN];have:(qD d t).map qC=qD d t:=by
  rw[qD,bc,jM];congr 1
  .exact dC fun h _=>nN _
  .show [qC (ofQ 0)]=_;rw[nN]
 rw[this]
theorem Ru (s:SHP)(d:Nat):pB s (eH d s.st)=SF s d:=by rw[pB,PE];rfl
theorem Oy {e:Int}:Weak (.tup [.agg zS,.agg (zN++zN),I e]) (⟨zA,[],zA,e⟩:SQ).pv:=WeakL.tup (.cons r6.agg (.cons m9.agg (WeakL.refl _)))
theorem JO (s:SHP)(d:Int)(B:BR)(l:List SR)(e:Int)(Q:SQ)(h1:aO 94 [.agg (fB s),I d] (.tup [.sl (l.map eS),I 0]))(h2:aO 95 [.agg (fB s),.sl (l.map eS)] (.tup [.agg (eB B),I e]))
  (h3:e=0->aO 78 [.agg (eB B)] Q.pv) (h4:e≠0->Q=⟨zA,[],zA,e⟩):aO 31 [.agg (fB s),I d] Q.pv:=by
 by_cases he:e=0
 .have g3:=h3 he;clear h3 h4;subst he;obtain⟨⟨az,at'⟩,F,⟨rz,rt⟩,e⟩:=Q;simp only[SQ.pv]at *
  refine ax Proofs.Tryz.func31 ?_;refine G h1 ?_;refine G h2 ?_;refine G g3 ?_;exact bW
 .rw[h4 he];refine Ret.weak ?_ (WeakL.refl _) Oy;clear h3 h4;refine ax Proofs.Tryz.func31 ?_;refine G h1 ?_;refine G h2 ?_;refine D ?_ ?_<;>intro h
  .clear h;exact bW
  .simp at h;exact absurd h he
def yW (x:Int):ST:=⟨x,10000,[0,3000],[4000]⟩
def Tn:LR:=⟨[76,105,103,104,116],320000,10000,2000,0⟩
def xR:SHP:=⟨[82,97,102,116],20000,[yW 5000,yW 15000],Tn,[]⟩
def Bv (x:Int):BKR:=⟨x,0,500,1500,1000,ofQ ((1000:Int):Rat),200000,false⟩
def lK:DKR:=⟨xR,1000,[Bv 5000,Bv 15000],[],150,5000⟩
theorem EE:gz xR=0:=by decide +kernel
theorem u4:xR.Len:=⟨Y,Y,fun t ht=>by
 simp only[xR,cG,iC,or_false]at ht
 rcases ht with rfl|rfl<;>exact⟨Y,Y⟩⟩
theorem SG:nk xR 1000=0:=by rw[nk,if_pos EE];decide
theorem Ba {x:Int}(h:aG x (-1000000) 1000000=true):qp (Bv x)=true:=by
 rw[qp,Kz];show(aG x (-1000000) 1000000&&aG 500 1 10000&&aG 1500 0 100000&&aG 1000 1 20000&&aG 200000 0 1000000000&&decide (0<(ofQ ((1000:Int):Rat)).val)&&decide ((0:Int)=0))=true;rw[h,ofQ_val];decide
theorem A_ {x:Int}(h:x=5000\/x=15000):gc x 0 [yW 5000,yW 15000]=some 0:=by rcases h with rfl|rfl<;>decide
theorem Qw:tu lK.s.st lK.zn lK.bl=0:=by
 have h0:lu lK.s.st lK.zn lK.bl 0 (Bv 5000)=0:=by
  rw[lu,if_pos (Ba Y),if_pos (by show(gc 5000 0 [yW 5000,yW 15000]).isSome=true;rw[A_ (.inl O)];rfl)];rfl
 have h1:lu lK.s.st lK.zn lK.bl 1 (Bv 15000)=0:=by
  rw[lu,if_pos (Ba Y),if_pos (by show(gc 15000 0 [yW 5000,yW 15000]).isSome=true;rw[A_ (.inr O)];rfl),if_neg (by show ¬(false=true);decide),if_neg];show ¬([Bv 5000].any (ly (Bv 15000)))=true;show ¬((decide (j6 15000 5000<500+500)&&decide (2*j6 0 0<1000+1000))||false)=true;decide
 rw[tu,if_neg Y];show gQ [Bv 5000,Bv 15000] _=0;rw[gQ,if_pos h0,gQ,if_pos h1,gQ]
theorem Lg:gF lK=0:=by
 rw[gF,if_pos (show nk lK.s lK.d=0 from SG),if_pos (show jg lK.zn=0 by decide),if_pos Qw,if_pos Y]
theorem R_:qD 1000 (yW 5000)=[ofQ ((80:Int):Rat),ofQ 0]:=by
 show [ofQ (((2*4000*10000:Int):Rat)*(((1000:Nat):Rat)/1000000000)),ofQ 0]=_;rw[show((2*4000*10000:Int):Rat)*(((1000:Nat):Rat)/1000000000)=((80:Int):Rat) by decide +kernel]
theorem GK (x:Int):iI 1000 (yW x)=h_ x:=by
 have:qD 1000 (yW x)=qD 1000 (yW 5000):=O;rw[iI,this,R_];rfl
theorem SK:qX xR=((10000:Int):Rat):=by decide +kernel
theorem QT (l:List SR):wB xR l=⟨320000,ofQ ((10000:Int):Rat),l⟩:=by
 rw[wB,SK];rfl
theorem Rt:SF xR 1000=r1:=by
 rw[SF,QT];show(⟨320000,ofQ ((10000:Int):Rat),[iI 1000 (yW 5000),iI 1000 (yW 15000)]⟩:BR)=_;rw[GK,GK];rfl
theorem OI (x:Int):xY (h_ x)=h_ x:=by
 show(⟨x,qC (ofQ 0),⟨[0,3000],[qC (ofQ ((80:Int):Rat)),qC (ofQ 0)]⟩⟩:SR)=_;rw[nN,nN];rfl
theorem OG (x:Int):xY (jp x)=jp x:=by
 show(⟨x,qC (ofQ ((1500:Int):Rat)),⟨[0],[qC (ofQ ((1000:Int):Rat))]⟩⟩:SR)=_;rw[nN,nN];rfl
theorem SJ:pB xR r2.l=r2:=by
 have h:=QT (r2.l.map xY);rw[wB]at h;rw[pB,h];show(⟨320000,ofQ ((10000:Int):Rat),[xY (jp 5000),xY (jp 15000),xY (h_ 5000),xY (h_ 15000)]⟩:BR)=_;rw[OI,OI,OG,OG];rfl
end Go.Pv
set_option maxHeartbeats 2000000
namespace Go.Pv
attribute [local irreducible] PWP POps PQuiet PSem aF aw ai ak
open Go.Proofs Go.RowKit
theorem zH {p:Prop}[Decidable p]{b:Bool}(h:b=true↔p):b=decide p:=by
 cases b with
 |true=>exact(decide_eq_true (h.1 rfl)).symm
 |false=>exact(decide_eq_false fun g=>by have:=h.2 g;cases this).symm
def EW (t:ST):Bool:=!decide ((8<t.L.length/\t.L.length<=30)\/40<t.L.length\/40<t.H0.length)
def LE (w:LR):Bool:=decide (w.nm.length<=40)
def QG (s:SHP):Bool:=!decide (40<s.nm.length\/40<s.light.nm.length\/(6<s.st.length/\s.st.length<=40)\/45<s.st.length\/(8<s.it.length/\s.it.length<=60)\/205<s.it.length)
def Pg (s:SHP):Bool:=QG s&&s.st.all EW&&s.it.all LE
theorem qI {α:Type}{p:α->Bool}{l:List α}{k:Nat}{x:α}(hx:l[k]? = some x)(h:p x=false):l.all p=false:=List.all_eq_false.2 ⟨x,bm hx,by rw[h];decide⟩
theorem uc {α:Type}{p:α->Bool}{l:List α}(h:∀(j:Nat) x,j<l.length->l[j]? = some x->p x=true):l.all p=true:=cm.2 fun x hx=>by
 obtain⟨j,hj⟩:=iA.1 hx;exact h j x (bV hj).1 hj
theorem qH {α:Type}{p:α->Bool}{l:List α}{k:Nat}{x:α}(h:∀(j:Nat) x,j<k->l[j]? = some x->p x=true)(hx:l[k]? = some x)(hp:p x=true):∀(j:Nat) x,j<k+1->l[j]? = some x->p x=true:=fun j u hj hu=>by
 rcases bG j k with g|g
 .exact h j u g hu
 .rw[show j=k by omega,hx]at hu;cases hu;exact hp
theorem NT (s:SHP):aO 39 [.agg (fB s)] (.bool (Pg s)):=by
 have hml:((s.st.map eT).length:Int)=s.st.length:=ao;have hmi:((s.it.map eLd).length:Int)=s.it.length:=ao;generalize hf:Pg s=E;rw[Pg]at hf;obtain⟨nm,len,st,light,it⟩:=s;simp only at *
 refine ax Proofs.Tryz.func39 ?_;refine H ?_;refine qe 100 [(1,.ptr 1 1 0 0),(52,.bool (!QG ⟨nm,len,st,light,it⟩))] [(1,1,⟨27,9,[fB ⟨nm,len,st,light,it⟩],2⟩)] ?_ ?_
 .clear hf
  repeat' (first|refine iH O ?_|refine fe O O (fun h=>?_) (fun h=>?_)|refine fc O O (fun h=>?_) (fun h=>?_)|refine fb O O (fun h=>?_) (fun h=>?_))
  all_goals refine⟨O,congrArg PV.bool ?_,O,trivial⟩
  all_goals (rw[QG,Bool.not_not];refine zH ?_)
  all_goals (simp only[decide_eq_true_eq,decide_eq_false_iff_not,hml,hmi]at *)
  all_goals (first|omega|(simp only[true_iff];omega)|(simp only[cF,false_iff];omega))
 intro s0;refine H ?_;cases h0:QG ⟨nm,len,st,light,it⟩
 .rw[h0]at hf;simp only[eP]at hf;subst hf;exact fC
 have h1:st.length<=45/\it.length<=205:=by
  simp only[QG,lG,decide_eq_false_iff_not]at h0;omega
 rw[h0,io]at hf;refine H ?_;refine ah (fun k:Nat=>k<=st.length/\∀(j:Nat) t,j<k->st[j]? = some t->EW t=true) (fun k=>[(1,.ptr 1 1 0 0),(3,I (k:Nat))]) (fun _=>[(1,1,⟨27,9,[fB ⟨nm,len,st,light,it⟩],2⟩)]) (fun k=>st.length-k) 0 ⟨aP _,fun j t hj=>absurd hj J⟩ ⟨O,O,O,trivial⟩ ?_;rintro k s1 ⟨hk,hall⟩;refine H ?_;rw[hml];refine aS O ?_ ?_<;>intro h
 .have hlt:k<st.length:=by have:=aB h;omega
  clear h;obtain⟨t,hx⟩:=aC hlt;have hmL:((t.L.map eN).length:Int)=t.L.length:=ao;have hmH:((t.H0.map eN).length:Int)=t.H0.length:=ao;have hw:=fg k;have bad:EW t=false->E=false:=fun h=>by rw[<-hf,qI hx h,eP]
  have good:=qH hall hx;have hdef:EW t=!decide ((8<t.L.length/\t.L.length<=30)\/40<t.L.length\/40<t.H0.length):=O;generalize EW t=b at *
  refine aQ hx ?_;refine cN 7 ?_;refine aT [(1,.ptr 1 1 0 0),(3,I (k:Nat)),(4,.ptr 4 ((s1.own 4).1+1) 0 0)] [(1,1,⟨27,9,[fB ⟨nm,len,st,light,it⟩],2⟩),(4,(s1.own 4).1+1,⟨130,4,[eT t],2⟩)] ⟨O,O,O,O,O,trivial⟩ ?_;generalize (s1.own 4).1+1=g4;intro s2
  ((repeat (first|refine bH ?_ | refine dT ?_ | refine dF ?_ | refine dy ?_));refine bZ ?_)
  refine qe 100 [(1,.ptr 1 1 0 0),(3,I (k:Nat)),(86,.bool (!b))] [(1,1,⟨27,9,[fB ⟨nm,len,st,light,it⟩],2⟩)] ?_ ?_
  .clear hf bad good hall
   repeat' (first|refine iH O ?_|refine fe O O (fun h=>?_) (fun h=>?_)|refine fc O O (fun h=>?_) (fun h=>?_)|refine fb O O (fun h=>?_) (fun h=>?_))
   all_goals refine⟨O,O,congrArg PV.bool ?_,O,trivial⟩
   all_goals (rw[hdef,Bool.not_not];refine zH ?_)
   all_goals (simp only[decide_eq_true_eq,decide_eq_false_iff_not,hmL,hmH]at *)
   all_goals (first|omega|(simp only[true_iff];omega)|(simp only[cF,false_iff];omega))
  intro s3;refine H ?_;cases b
  .rw[bad O];exact fC
  .refine H ?_;exact⟨k+1,⟨hlt,good O⟩,J,O,congrArg I hw,O,trivial⟩
 have hge:k=st.length:=by have:=aE h;omega
 clear h;subst hge;rw[uc hall,io]at hf;clear hall;refine H ?_;refine ah (fun k:Nat=>k<=it.length/\∀(j:Nat) t,j<k->it[j]? = some t->LE t=true) (fun k=>[(1,.ptr 1 1 0 0),(5,I (k:Nat))]) (fun _=>[(1,1,⟨27,9,[fB ⟨nm,len,st,light,it⟩],2⟩)]) (fun k=>it.length-k) 0 ⟨aP _,fun j t hj=>absurd hj J⟩ ⟨O,O,O,trivial⟩ ?_;rintro k s1 ⟨hk,hall⟩;refine H ?_;rw[hmi];refine aS O ?_ ?_<;>intro h
 .have hlt:k<it.length:=by have:=aB h;omega
  clear h;obtain⟨t,hx⟩:=aC hlt;have hw:=fg k;have bad:LE t=false->E=false:=fun h=>by rw[<-hf,qI hx h]
  have good:=qH hall hx;have hdef:LE t=decide (t.nm.length<=40):=O;generalize LE t=b at *
  refine aQ hx ?_;refine D ?_ ?_<;>intro h
  .have h2:40<(t.nm.length:Int):=aB h;clear h;rw[decide_eq_false J]at hdef;rw[bad hdef];exact fC
  .have h2:¬40<(t.nm.length:Int):=aE h;clear h;rw[decide_eq_true J]at hdef;refine H ?_;exact⟨k+1,⟨hlt,good hdef⟩,J,O,congrArg I hw,O,trivial⟩
 have hge:k=it.length:=by have:=aE h;omega
 clear h;subst hge;rw[uc hall]at hf;subst hf;exact fC
def Q3 (b:BKR):Bool:=Ms b.st 3
def Sb (z:ZNR):Bool:=decide (z.nm.length<=40)
def Sa (d:DKR):Bool:=Pg d.s&&!decide ((5<d.bl.length/\d.bl.length<=40)\/65<d.bl.length\/(4<d.zn.length/\d.zn.length<=20)\/25<d.zn.length)
def IB (d:DKR):Bool:=Sa d&&d.bl.all Q3&&d.zn.all Sb
theorem u7 (d:DKR):aO 16 [.agg (cn d)] (.bool (IB d)):=by
 have hmb:((d.bl.map eBk).length:Int)=d.bl.length:=ao;have hmz:((d.zn.map lA).length:Int)=d.zn.length:=ao;have hs:=NT d.s;generalize hf:IB d=E;rw[IB]at hf;have hM:Sa d=(Pg d.s&&!decide ((5<d.bl.length/\d.bl.length<=40)\/65<d.bl.length\/(4<d.zn.length/\d.zn.length<=20)\/25<d.zn.length)):=O;generalize Sa d=M,Pg d.s=S at *
 obtain⟨s,den,bl,zn,gm,oh⟩:=d;simp only at *
 refine ax Proofs.Tryz.func16 ?_;refine aj hs ?_;refine qe 100 [(1,.ptr 1 1 0 0),(44,.bool (!M))] [(1,1,⟨31,14,[cn ⟨s,den,bl,zn,gm,oh⟩],2⟩)] ?_ ?_
 .clear hf hs;cases S
  .repeat' (first|refine iH O ?_|refine fe O O (fun h=>?_) (fun h=>?_)|refine fc O O (fun h=>?_) (fun h=>?_)|refine fb O O (fun h=>?_) (fun h=>?_))
   exact⟨O,congrArg PV.bool (by rw[hM];rfl),O,trivial⟩
  .repeat' (first|refine iH O ?_|refine fe O O (fun h=>?_) (fun h=>?_)|refine fc O O (fun h=>?_) (fun h=>?_)|refine fb O O (fun h=>?_) (fun h=>?_))
   all_goals refine⟨O,congrArg PV.bool ?_,O,trivial⟩
   all_goals (rw[hM,io,Bool.not_not];refine zH ?_)
   all_goals (simp only[decide_eq_true_eq,decide_eq_false_iff_not,hmb,hmz]at *)
   all_goals (first|omega|(simp only[true_iff];omega)|(simp only[cF,false_iff];omega))
 intro s0;refine H ?_;cases M
 .simp only[eP]at hf;subst hf;exact fC
 have h1:bl.length<=65/\zn.length<=25:=by
  have hM:=hM.symm;simp only[ca,lG,decide_eq_false_iff_not]at hM;omega
 rw[io]at hf;refine H ?_;refine ah (fun k:Nat=>k<=bl.length/\∀(j:Nat) t,j<k->bl[j]? = some t->Q3 t=true) (fun k=>[(1,.ptr 1 1 0 0),(3,I (k:Nat))]) (fun _=>[(1,1,⟨31,14,[cn ⟨s,den,bl,zn,gm,oh⟩],2⟩)]) (fun k=>bl.length-k) 0 ⟨aP _,fun j t hj=>absurd hj J⟩ ⟨O,O,O,trivial⟩ ?_;rintro k s1 ⟨hk,hall⟩;refine H ?_;rw[hmb];refine aS O ?_ ?_<;>intro h
 .have hlt:k<bl.length:=by have:=aB h;omega
  clear h;obtain⟨t,hx⟩:=aC hlt;have hw:=fg k;have bad:Q3 t=false->E=false:=fun h=>by rw[<-hf,qI hx h,eP]
  have good:=qH hall hx;have hsr:aO 20 [.agg (eR t.st),I (3:Nat)] (.bool (Q3 t)):=qt t.st 3 Y;generalize Q3 t=b at *
  refine aQ hx ?_;refine aj hsr ?_;cases b
  .rw[bad O];exact fC
  .refine H ?_;exact⟨k+1,⟨hlt,good O⟩,J,O,congrArg I hw,O,trivial⟩
 have hge:k=bl.length:=by have:=aE h;omega
 clear h;subst hge;rw[uc hall,io]at hf;clear hall;refine H ?_;refine ah (fun k:Nat=>k<=zn.length/\∀(j:Nat) t,j<k->zn[j]? = some t->Sb t=true) (fun k=>[(1,.ptr 1 1 0 0),(4,I (k:Nat))]) (fun _=>[(1,1,⟨31,14,[cn ⟨s,den,bl,zn,gm,oh⟩],2⟩)]) (fun k=>zn.length-k) 0 ⟨aP _,fun j t hj=>absurd hj J⟩ ⟨O,O,O,trivial⟩ ?_;rintro k s1 ⟨hk,hall⟩;refine H ?_;rw[hmz];refine aS O ?_ ?_<;>intro h
 .have hlt:k<zn.length:=by have:=aB h;omega
  clear h;obtain⟨t,hx⟩:=aC hlt;have hw:=fg k;have bad:Sb t=false->E=false:=fun h=>by rw[<-hf,qI hx h]
  have good:=qH hall hx;have hdef:Sb t=decide (t.nm.length<=40):=O;generalize Sb t=b at *
  refine aQ hx ?_;refine D ?_ ?_<;>intro h
  .have h2:40<(t.nm.length:Int):=aB h;clear h;rw[decide_eq_false J]at hdef;rw[bad hdef];exact fC
  .have h2:¬40<(t.nm.length:Int):=aE h;clear h;rw[decide_eq_true J]at hdef;refine H ?_;exact⟨k+1,⟨hlt,good hdef⟩,J,O,congrArg I hw,O,trivial⟩
 have hge:k=zn.length:=by have:=aE h;omega
 clear h;subst hge;rw[uc hall]at hf;subst hf;exact fC
end Go.Pv
namespace Go.Pv
open Go.RowKit
variable [Globs]
section
variable {P:Program}{L:df}{s:St}
theorem D_ {d:Nat}{c:Cont}:(s.fin d c).own d=((s.own d).1+1,some c):=ar ..
theorem Loc.slit0 {o:Oper}{T e:TypeId}{r re:LRow}{d:Nat}(ho:o.op = .buildSlice T 0 #[])(hd:o.dst=some d)(hr:L T=some r)(hs:r.sh = .sl e)(hre:L e=some re)(hz:re.zero.isSome=true)(hsz:0<re.size) :
  Loc P L s o d ((s.fin d ⟨e,re.size,[],0⟩).putR d (.als d ((s.own d).1+1) 0 0)):=by
 have key:∀u:St,GZ P L u o d ((u.fin d ⟨e,re.size,[],0⟩).putR d (.als d ((u.own d).1+1) 0 0)):=fun u=>by
  refine⟨fun k hk=>aN hk,fun t ht=>?_,fun C a w K Q hG h hN hK=>?_⟩
  .show(bif Nat.beq t d then _ else u.reg t)=_;rw[cD (fun e=>ht (by rw[e];exact hd))];rfl
  .have:=Eff.slit (P:=P) (L:=L) (s:=u) (o:=o) (parts:=#[]) (n:=0) (Pr:=True) 0 ho hd hr hs hre hz hsz O ao (fun p hp=>by simp at hp) O trivial O;exact this.sound hG.lay hG.x hG.glob h hN hK
 refine .any (key s) fun u hu _=>⟨_,key u,?_,fun t ht=>?_⟩
 .show(u.fin d _).own d=(s.fin d _).own d;rw[D_,D_,hu]
 .rw[hd]at ht;cases ht;show(bif Nat.beq d d then _ else _)=(bif Nat.beq d d then _ else _);simp[hu]
theorem Loc.appG {o:Oper}{T e:TypeId}{r re:LRow}{x y:Operand}{d k g:Nat}{rows:List (List PV)}(ho:o.op = .call ⟨.builtin .append,#[x,y],#[T,T]⟩)(hd:o.dst=some d)(hr:L T=some r)(hs:r.sh = .sl e)(hre:L e=some re)(hz:re.zero.isSome=true)(hsz:0<re.size)
  (hx:s.ev x = .als k g 0 0) (hown:s.own k=(g,some ⟨e,re.size,[],0⟩)) (hy:s.ev y = .sl rows) (hpl:rows.all (·.all jy)=true) (hlen:∀row∈rows,row.length=re.size) (hb:rows.length*re.bytes<=140737488355328) (h63:rows.length<=9223372036854775807) :
  Loc P L s o k ((s.setOwn k (g+2) none).putR d (.fsl rows)):=by
 have key:∀u:St,u.own k=s.own k->(∀z∈o.op.operands,u.ev z=s.ev z)->GZ P L u o k ((u.setOwn k (g+2) none).putR d (.fsl rows)):=fun u hu he=>by
  refine⟨fun k' hk=>aN hk,fun t ht=>?_,fun C a w K Q hG h hN hK=>?_⟩
  .show(bif Nat.beq t d then _ else u.reg t)=_;rw[cD (fun e=>ht (by rw[e];exact hd))];rfl
  .have hx':u.ev x = .als k g 0 0:=by rw[he x (by rw[ho];simp[Op.operands,Call.operands])];exact hx
   have hy':u.ev y = .sl rows:=by rw[he y (by rw[ho];simp[Op.operands,Call.operands])];exact hy
   have:=Eff.app (P:=P) (L:=L) (s:=u) (o:=o) (c:=⟨e,re.size,[],0⟩) (m:=0) (rows2:=rows) (k2:=1) (Cd2:=True) 1 ho hd hr hs hre hz hsz hx' (by rw[hu];exact hown) O O O (by rw[hy'];rfl) trivial hlen (by show(0:Nat)<=1;omega) J (by simpa using hb) (by simpa using h63);refine this.sound hG.lay hG.x hG.glob h hN fun a' w' h'=>hK a' w' ?_;have hg:(u.own k).1=g:=by rw[hu,hown]
   let l:List {r:List PV // r.all jy=true}:=rows.attachWith _ fun row hrow=>cm.1 hpl row hrow;have hl:l.map Subtype.val=rows:=by simp[l]
   have hgh:=Ghost.takeF (s:=(u.fin k ⟨e,re.size,[]++rows,1⟩).putR d (.als k (g+1) 0 ([]++rows).length)) (k:=k) (g:=g+1) (t:=d) (n:=rows.length) (kd:=1) (sz:=re.size) (T:=e) (rows:=rows) (enc:=Subtype.val) l (by show(u.fin k _).own k=_;rw[D_,hg];rfl) (by show(bif Nat.beq d d then _ else _)=_;simp) hl.symm O fun x=>x.2;rw[hl]at hgh;have h2:=hgh C a' w' hG.x h';have hst:((((u.fin k ⟨e,re.size,[]++rows,1⟩).putR d (.als k (g+1) 0 ([]++rows).length)).setOwn k (g+1+1) none).putR d (.fsl rows))=((u.setOwn k (g+2) none).putR d (.fsl rows)):=by
    refine St.ext' (funext fun t=>?_) (funext fun q=>?_)
    .show(bif Nat.beq t d then _ else(bif Nat.beq t d then _ else u.reg t))=(bif Nat.beq t d then _ else u.reg t);cases Nat.beq t d<;>rfl
    .by_cases hq:q=k
     .subst hq;show(St.setOwn _ q (g+1+1) none).own q=(St.setOwn _ q (g+2) none).own q;rw[ar,ar]
     .show(St.setOwn _ k (g+1+1) none).own q=(St.setOwn _ k (g+2) none).own q;rw[aN hq,aN hq];exact aN hq
   rwa [hst]at h2
 refine .any (key s O fun _ _=>rfl) fun u hu he=>⟨_,key u hu he,?_,fun t ht=>?_⟩
 .show(St.setOwn _ k (g+2) none).own k=(St.setOwn _ k (g+2) none).own k;rw[ar,ar]
 .rw[hd]at ht;cases ht;show(bif Nat.beq d d then _ else _)=(bif Nat.beq d d then _ else _);simp
theorem Loc.idx {o:Oper}{T e:TypeId}{r re:LRow}{x ix:Operand}{d k g i m n:Nat}{kk:IntKind}{c:Cont}(ho:o.op = .indexAddr T x ix)(hd:o.dst=some d)(hr:L T=some r)(hs:r.sh = .sl e)(hre:L e=some re)
  (hx:s.ev x = .als k g i m) (hown:s.own k=(g,some c)) (hsz:c.sz=re.size) (hix:s.ev ix = .int kk (n:Int)) (hlt:n<m):Loc P L s o k (s.putR d (.ptr k g (i+n) 0)):=by
 have key:∀u:St,u.own k=s.own k->(∀z∈o.op.operands,u.ev z=s.ev z)->GZ P L u o k (u.putR d (.ptr k g (i+n) 0)):=fun u hu he=>by
  refine⟨fun k' hk=>rfl,fun t ht=>?_,fun C a w K Q hG h hN hK=>?_⟩
  .show(bif Nat.beq t d then _ else u.reg t)=_;rw[cD (fun e=>ht (by rw[e];exact hd))];rfl
  .have hx':u.ev x = .als k g i m:=by rw[he x (by rw[ho];simp[Op.operands,Call.operands])];exact hx
   have hy':u.ev ix = .int kk (n:Int):=by rw[he ix (by rw[ho];simp[Op.operands])];exact hix
   have:=QOp.idxA (P:=P) (L:=L) (s:=u) (o:=o) ho hr hs hre hx' (by rw[hu];exact hown) hsz hy' J J;rw[br]at this;refine this.wp hG h hN fun a' w' h'=>hK a' w' ?_;rw[hd]at h';exact h'
 refine .any (key s O fun _ _=>rfl) fun u hu he=>⟨_,key u hu he,hu,fun t ht=>?_⟩;rw[hd]at ht;cases ht;show(bif Nat.beq d d then _ else _)=(bif Nat.beq d d then _ else _);simp
theorem Loc.look {o:Oper}{d k:Nat}{v:PV}(hd:o.dst=some d)(h:∀u:St,u.own k=s.own k->(∀z∈o.op.operands,u.ev z=s.ev z)->QOp P L u o v):Loc P L s o k (s.putR d v):=by
 have key:∀u:St,u.own k=s.own k->(∀z∈o.op.operands,u.ev z=s.ev z)->GZ P L u o k (u.putR d v):=fun u hu he=>by
  refine⟨fun k' hk=>rfl,fun t ht=>?_,fun C a w K Q hG hs hN hK=>?_⟩
  .show(bif Nat.beq t d then _ else u.reg t)=_;rw[cD (fun e=>ht (by rw[e];exact hd))];rfl
  .refine(h u hu he).wp hG hs hN fun a' w' h'=>hK a' w' ?_;rw[hd]at h';exact h'
 refine .any (key s O fun _ _=>rfl) fun u hu he=>⟨_,key u hu he,hu,fun t ht=>?_⟩;rw[hd]at ht;cases ht;show(bif Nat.beq d d then _ else _)=(bif Nat.beq d d then _ else _);simp
end
section
variable {P:Program}{L:df}{ops:Array Oper}{s:St}{K:St->Prop}{rest:List Oper}
theorem Tt {Z:List Nat}{lc:Nat->Option Nat}{i d k gn ii j f off:Nat}{T ft ty:TypeId}{r rf:LRow}{fs:List (Nat × TypeId)}{x:Operand}{c:Cont}{pos:String}{af:Array Edge}{g:Option (Nat × Bool)}(hg:gB ops s g=some true)(hc:lc i=some k)(hr:L T=some r)(hs:r.sh = .st fs)(hf:fs[f]? = some (off,ft))(hrf:L ft=some rf)(hsz:Nat.blt 0 rf.size=true)
  (hx:s.ev x = .ptr k gn ii j) (hown:s.own k=(gn,some c)) (hlt:Nat.blt (j+off) c.sz=true)
  (h:P5 P L ops Z lc K (i+1) rest (s.putR d (.ptr k gn ii (j+off)))):P5 P L ops Z lc K i (⟨some d,.fieldAddr T x f,ty,pos,af,g⟩::rest) s:=by
 refine⟨_,?_,h⟩;rw[hc];refine Step5.loc (o:=⟨some d,.fieldAddr T x f,ty,pos,af,g⟩) (fX hg) (.look O fun u hu he=>?_);refine .v (Cd:=True) ?_ trivial;have hx':u.ev x = .ptr k gn ii j:=by rw[he x (by simp[Op.operands])];exact hx
 simp only[qv,hr,hs,hf,hrf,hsz,cond_true,hx',hu,hown,hlt]
theorem Te {Z:List Nat}{lc:Nat->Option Nat}{i d:Nat}{T e ty:TypeId}{r re:LRow}{pos:String}{af:Array Edge}{g:Option (Nat × Bool)}(hg:gB ops s g=some true)(hc:lc i=some d)(hr:L T=some r)(hs:r.sh = .sl e)(hre:L e=some re)(hz:re.zero.isSome=true)(hsz:Nat.blt 0 re.size=true)
  (h:P5 P L ops Z lc K (i+1) rest ((s.fin d ⟨e,re.size,[],0⟩).putR d (.als d ((s.own d).1+1) 0 0))):P5 P L ops Z lc K i (⟨some d,.buildSlice T 0 #[],ty,pos,af,g⟩::rest) s:=by
 refine⟨_,?_,h⟩;rw[hc];exact Step5.loc (o:=⟨some d,.buildSlice T 0 #[],ty,pos,af,g⟩) (fX hg) (.slit0 O O hr hs hre hz (by simpa using hsz))
theorem Tf {Z:List Nat}{lc:Nat->Option Nat}{i d k gn:Nat}{T e ty:TypeId}{r re:LRow}{x y:Operand}{rows:List (List PV)}{pos:String}{af:Array Edge}{g:Option (Nat × Bool)}(hg:gB ops s g=some true)(hc:lc i=some k)(hr:L T=some r)(hs:r.sh = .sl e)(hre:L e=some re)(hz:re.zero.isSome=true)(hsz:Nat.blt 0 re.size=true)
  (hx:s.ev x = .als k gn 0 0) (hown:s.own k=(gn,some ⟨e,re.size,[],0⟩)) (hy:s.ev y = .sl rows) (hpl:rows.all (·.all jy)=true) (hlen:∀row∈rows,row.length=re.size) (hb:rows.length*re.bytes<=140737488355328) (h63:rows.length<=9223372036854775807)
  (h:P5 P L ops Z lc K (i+1) rest ((s.setOwn k (gn+2) none).putR d (.fsl rows))):P5 P L ops Z lc K i (⟨some d,.call ⟨.builtin .append,#[x,y],#[T,T]⟩,ty,pos,af,g⟩::rest) s:=by
 refine⟨_,?_,h⟩;rw[hc];exact Step5.loc (o:=⟨some d,.call ⟨.builtin .append,#[x,y],#[T,T]⟩,ty,pos,af,g⟩) (fX hg) (.appG O O hr hs hre hz (by simpa using hsz) hx hown hy hpl hlen hb h63)
theorem Tu {Z:List Nat}{lc:Nat->Option Nat}{i d k gn ii m n:Nat}{kk:IntKind}{T e ty:TypeId}{r re:LRow}{x ix:Operand}{c:Cont}{pos:String}{af:Array Edge}{g:Option (Nat × Bool)}(hg:gB ops s g=some true)(hc:lc i=some k)(hr:L T=some r)(hs:r.sh = .sl e)(hre:L e=some re)
  (hx:s.ev x = .als k gn ii m) (hown:s.own k=(gn,some c)) (hsz:c.sz=re.size) (hix:s.ev ix = .int kk (n:Int)) (hlt:n<m)
  (h:P5 P L ops Z lc K (i+1) rest (s.putR d (.ptr k gn (ii+n) 0))):P5 P L ops Z lc K i (⟨some d,.indexAddr T x ix,ty,pos,af,g⟩::rest) s:=by
 refine⟨_,?_,h⟩;rw[hc];exact Step5.loc (o:=⟨some d,.indexAddr T x ix,ty,pos,af,g⟩) (fX hg) (.idx O O hr hs hre hx hown hsz hix hlt)
end
end Go.Pv
set_option maxHeartbeats 2000000
namespace Go.Pv
attribute [local irreducible] PWP POps PQuiet PSem aF aw ai ak
open Go.Proofs
theorem BK (d:DKR)(h1:d.s.st.length<=1000)(h2:d.s.it.length<=1000)(h3:d.bl.length<=1000)(h4:d.zn.length<=1000)(hL:∀t∈d.s.st,t.L.length<=1000/\t.H0.length<=1000)(hS:∀b∈d.bl,b.st.sz 1000):aO 18 [.agg (cn d)] (.agg (cn d)):=by
 have hms:(d.s.st.map eT).length=d.s.st.length:=ao;have hmb:(d.bl.map eBk).length=d.bl.length:=ao;obtain⟨⟨nm,len,st,⟨ln,lm,lx,lz,lf⟩,it⟩,den,bl,zn,gm,oh⟩:=d;simp only at *
 refine ax Proofs.Tryz.func18 ?_;refine H ?_;refine ay (aY 1 O O O O O O O O O O O aH O ?_);refine H ?_;refine ay (bJ 1 O O O O O O O O O O O aH (by intro row hr;obtain⟨p,_,rfl⟩:=bX.1 hr;rfl) O O aV aV ?_);refine cN 4 ?_;refine aT [(1,.ptr 1 1 0 0),(2,.ptr 2 1 0 0),(3,.ptr 3 1 0 0),(4,I ((0:Nat):Int))] [(1,1,⟨31,14,[[.str nm,I len,.sl (st.map eT),.str ln,I lm,I lx,I lz,I lf,.sl (it.map eLd),I den,.sl (bl.map eBk),.sl (zn.map lA),I gm,I oh]],2⟩),(2,1,⟨31,14,[[.str [],I 0,.nil,.str [],I 0,I 0,I 0,I 0,.nil,I 0,.nil,.nil,I 0,I 0]],2⟩),(3,1,⟨31,14,[[.str nm,I len,.nil,.str ln,I lm,I lx,I lz,I lf,.als 9 2 0 (it.map eLd).length,I den,.sl (bl.map eBk),.sl (zn.map lA),I gm,I oh]],2⟩),(9,2,⟨24,5,it.map eLd,1⟩)] ⟨O,O,O,O,O,O,O,O,trivial⟩ ?_;intro s0;refine am (Ghost.freezeD (k:=9) (k0:=3) (i:=0) (j:=8) (row:=[.str nm,I len,.nil,.str ln,I lm,I lx,I lz,I lf,.als 9 2 0 (it.map eLd).length,I den,.sl (bl.map eBk),.sl (zn.map lA),I gm,I oh]) O O O O O O O O) ?_;refine am (Ghost.nilcell (k:=400) (k0:=3) (i:=0) (j:=2) (row:=[.str nm,I len,.nil,.str ln,I lm,I lx,I lz,I lf,.sl (it.map eLd),I den,.sl (bl.map eBk),.sl (zn.map lA),I gm,I oh]) 130 4 1 O O O O O O O) ?_;have hg4:∃g4,(s0.own 400).1+1=g4:=⟨_,O⟩;obtain⟨g4,hg4⟩:=hg4;refine ah (fun i:Nat=>i<=st.length) (fun i=>[(1,.ptr 1 1 0 0),(2,.ptr 2 1 0 0),(3,.ptr 3 1 0 0),(4,I (i:Nat))]) (fun i=>[(1,1,⟨31,14,[[.str nm,I len,.sl (st.map eT),.str ln,I lm,I lx,I lz,I lf,.sl (it.map eLd),I den,.sl (bl.map eBk),.sl (zn.map lA),I gm,I oh]],2⟩),(2,1,⟨31,14,[[.str [],I 0,.nil,.str [],I 0,I 0,I 0,I 0,.nil,I 0,.nil,.nil,I 0,I 0]],2⟩),(3,1,⟨31,14,[[.str nm,I len,.als 400 (g4+i) 0 ((st.take i).map eT).length,.str ln,I lm,I lx,I lz,I lf,.sl (it.map eLd),I den,.sl (bl.map eBk),.sl (zn.map lA),I gm,I oh]],2⟩),(400,g4+i,⟨130,4,(st.take i).map eT,1⟩)]) (fun i=>st.length-i) 0 (aP _) ⟨O,O,O,O,O,O,by rw[<-hg4];rfl,by rw[<-hg4];rfl,trivial⟩ ?_;clear hg4;intro i s1 hi;refine H ?_;rw[hms];refine aS O ?_ ?_<;>intro h
 .have hlt:i<st.length:=by have:=aB h;omega
  clear h;obtain⟨t,hx⟩:=aC hlt;obtain⟨hl1,hl2⟩:=hL t (bm hx);have e1:=(lQ t.L J).shared_of_fresh;have e2:=(lQ t.H0 J).shared_of_fresh;have hrow:(st.take (i+1)).map eT=(st.take i).map eT++[[I t.x,I t.w,.sl (t.L.map eN),.sl (t.H0.map eN)]]:=by rw[bS hx,bc];rfl
  have hw:=fg i;have htl:((st.take i).map eT).length<=1000:=by rw[aR,bw];omega
  have hb4:g4+(i+1)=g4+i+1:=O;generalize (st.take i).map eT=R at *
  refine aQ hx ?_;refine cN 7 ?_;refine cd [46,400] [3] 16 [14,15,16,17,18] aK aK ?_;refine G e1 ?_;refine G e2 ?_;refine H ?_;refine lr O O O (aY 1 O O O O O O O O O O O aH O ⟨gZ O,?_⟩);refine H ?_;refine lr O O O (bJ 1 O O O O O O O O O O O aH (by intro row hr;first|(simp at hr;subst hr;rfl)|(simp at hr;obtain⟨_,_,rfl⟩:=hr;rfl)|simp at hr) O O aV aV ⟨gZ O,?_⟩);refine H ?_;refine⟨i+1,hlt,J,O,O,O,congrArg I hw,O,O,?_,?_,trivial⟩
  .rw[hrow,hb4];rfl
  .rw[hrow,hb4];rfl
 have hie:i=st.length:=by have:=aE h;omega
 clear h;subst hie;rw[bb];refine am (Ghost.freezeD (k:=400) (k0:=3) (i:=0) (j:=2) (row:=[.str nm,I len,.als 400 (g4+st.length) 0 (st.map eT).length,.str ln,I lm,I lx,I lz,I lf,.sl (it.map eLd),I den,.sl (bl.map eBk),.sl (zn.map lA),I gm,I oh]) O O O O O O O O) ?_;refine H ?_;refine ay (aY 1 O O O O O O O O O O O aH O ?_);refine H ?_;refine ay (bJ 1 O O O O O O O O O O O aH (by intro row hr;obtain⟨p,_,rfl⟩:=bX.1 hr;rfl) O O aV aV ?_);refine cN 10 ?_;refine aT [(1,.ptr 1 1 0 0),(2,.ptr 2 1 0 0),(3,.ptr 3 1 0 0),(6,I ((0:Nat):Int))] [(1,1,⟨31,14,[[.str nm,I len,.sl (st.map eT),.str ln,I lm,I lx,I lz,I lf,.sl (it.map eLd),I den,.sl (bl.map eBk),.sl (zn.map lA),I gm,I oh]],2⟩),(2,1,⟨31,14,[[.str [],I 0,.nil,.str [],I 0,I 0,I 0,I 0,.nil,I 0,.nil,.nil,I 0,I 0]],2⟩),(3,1,⟨31,14,[[.str nm,I len,.sl (st.map eT),.str ln,I lm,I lx,I lz,I lf,.sl (it.map eLd),I den,.als 50 ((s1.own 50).1+2) 0 (bl.map eBk).length,.sl (zn.map lA),I gm,I oh]],2⟩),(50,(s1.own 50).1+2,⟨108,11,bl.map eBk,1⟩)] ⟨O,O,O,O,O,O,O,O,trivial⟩ ?_;generalize (s1.own 50).1+2=g5;intro s2;refine ah (fun i:Nat=>i<=bl.length) (fun i=>[(1,.ptr 1 1 0 0),(2,.ptr 2 1 0 0),(3,.ptr 3 1 0 0),(6,I (i:Nat))]) (fun _=>[(1,1,⟨31,14,[[.str nm,I len,.sl (st.map eT),.str ln,I lm,I lx,I lz,I lf,.sl (it.map eLd),I den,.sl (bl.map eBk),.sl (zn.map lA),I gm,I oh]],2⟩),(2,1,⟨31,14,[[.str [],I 0,.nil,.str [],I 0,I 0,I 0,I 0,.nil,I 0,.nil,.nil,I 0,I 0]],2⟩),(3,1,⟨31,14,[[.str nm,I len,.sl (st.map eT),.str ln,I lm,I lx,I lz,I lf,.sl (it.map eLd),I den,.als 50 g5 0 (bl.map eBk).length,.sl (zn.map lA),I gm,I oh]],2⟩),(50,g5,⟨108,11,bl.map eBk,1⟩)]) (fun i=>bl.length-i) 0 (aP _) ⟨O,O,O,O,O,O,O,O,trivial⟩ ?_;intro i s3 hi;refine D ?_ ?_<;>intro h
 .have hlt:i<bl.length:=by have:=aB h;simp only[hmb]at this;omega
  clear h;obtain⟨b,hx⟩:=aC hlt;obtain⟨hb1,hb2⟩:=hS b (bm hx);have hrl:(bl.map eBk)[i]? = some [I b.x,I b.z,I b.hf,I b.ht,I b.wd,.bool b.st.n.neg,.sl (b.st.n.l.map eU),.bool b.st.d.neg,.sl (b.st.d.l.map eU),I b.lim,.bool b.side]:=by rw[bD,hx];rfl
  have hset:(bl.map eBk).set i [I b.x,I b.z,I b.hf,I b.ht,I b.wd,.bool b.st.n.neg,.sl (b.st.n.l.map eU),.bool b.st.d.neg,.sl (b.st.d.l.map eU),I b.lim,.bool b.side]=bl.map eBk:=by
   refine i4 fun j=>?_;rcases Nat.decEq i j with hne|rfl
   .rw[eo hne]
   .rw[fq (by rw[aR];exact hlt),hrl]
  have hw:=fg i;have hpl:∀l:List UInt16,(l.map eU).all (·.all jy)=true:=fun l=>cm.2 fun r hr=>by obtain⟨c,_,rfl⟩:=bX.1 hr;rfl
  have hle:∀l:List UInt16,∀r∈l.map eU,r.length=1:=fun l r hr=>by obtain⟨c,_,rfl⟩:=bX.1 hr;rfl
  have hn1:(b.st.n.l.map eU).length=b.st.n.l.length:=ao;have hn2:(b.st.d.l.map eU).length=b.st.d.l.length:=ao;refine aQ hx ?_;refine cN 13 ?_;refine fT [(6,74),(10,74),(15,83),(19,83),(22,50),(23,50),(24,50)] aK aK ?_;refine H ?_;refine Te O O O O O O O ?_;refine H ?_;refine Tf O O O O O O O O O O (hpl _) (hle _) (by rw[hn1];show _*2<=_;omega) (by rw[hn1];omega) ?_;refine H ?_;refine Te O O O O O O O ?_;refine H ?_;refine Tf O O O O O O O O O O (hpl _) (hle _) (by rw[hn2];show _*2<=_;omega) (by rw[hn2];omega) ?_;refine H ?_;refine Tu (n:=i) O O O O O O O O O (by rw[hmb];exact hlt) ?_;rw[aX i];refine Tt O O O O O O O O O O ?_;refine Fi 1 O O O O O hrl (fun _=>rfl) aH O O O O ?_;refine H ?_;refine⟨i+1,hlt,J,O,O,O,congrArg I hw,O,O,O,?_,trivial⟩;refine Eq.trans (b:=(g5,some (Cont.mk 108 11 ((bl.map eBk).set i [I b.x,I b.z,I b.hf,I b.ht,I b.wd,.bool b.st.n.neg,.sl (b.st.n.l.map eU),.bool b.st.d.neg,.sl (b.st.d.l.map eU),I b.lim,.bool b.side]) 1))) O ?_;rw[hset]
 have hie:i=bl.length:=by have:=aE h;simp only[hmb]at this;omega
 clear h;subst hie;refine am (Ghost.freezeD (k:=50) (k0:=3) (i:=0) (j:=10) (row:=[.str nm,I len,.sl (st.map eT),.str ln,I lm,I lx,I lz,I lf,.sl (it.map eLd),I den,.als 50 g5 0 (bl.map eBk).length,.sl (zn.map lA),I gm,I oh]) O O O O O O O O) ?_;refine H ?_;refine ay (aY 1 O O O O O O O O O O O aH O ?_);refine H ?_;refine ay (bJ 1 O O O O O O O O O O O aH (by intro row hr;obtain⟨p,_,rfl⟩:=bX.1 hr;rfl) O O aV aV ?_);refine cN 15 ?_;refine aT [(1,.ptr 1 1 0 0),(2,.ptr 2 1 0 0),(3,.ptr 3 1 0 0)] [(1,1,⟨31,14,[[.str nm,I len,.sl (st.map eT),.str ln,I lm,I lx,I lz,I lf,.sl (it.map eLd),I den,.sl (bl.map eBk),.sl (zn.map lA),I gm,I oh]],2⟩),(2,1,⟨31,14,[[.str [],I 0,.nil,.str [],I 0,I 0,I 0,I 0,.nil,I 0,.nil,.nil,I 0,I 0]],2⟩),(3,1,⟨31,14,[[.str nm,I len,.sl (st.map eT),.str ln,I lm,I lx,I lz,I lf,.sl (it.map eLd),I den,.sl (bl.map eBk),.als 92 ((s3.own 92).1+2) 0 (zn.map lA).length,I gm,I oh]],2⟩),(92,(s3.own 92).1+2,⟨132,4,zn.map lA,1⟩)] ⟨O,O,O,O,O,O,O,trivial⟩ ?_;generalize (s3.own 92).1+2=g9;intro s4;refine am (Ghost.freezeD (k:=92) (k0:=3) (i:=0) (j:=11) (row:=[.str nm,I len,.sl (st.map eT),.str ln,I lm,I lx,I lz,I lf,.sl (it.map eLd),I den,.sl (bl.map eBk),.als 92 g9 0 (zn.map lA).length,I gm,I oh]) O O O O O O O O) ?_;exact bW
def x9:List ST:=[yW 5000,yW 15000]
def Bb:List BKR:=[Bv 5000,Bv 15000]
set_option maxHeartbeats 16000000 in
theorem K7:aO 63 [] (.agg (cn lK)):=by
 have w:=b_ 1000 ⟨Y,Y⟩;have hB:∀i:Nat,i<2->(Bb.take (i+1)).map eBk=(Bb.take i).map eBk++[[I (if i=0 then 5000 else 15000),I 0,I 500,I 1500,I 1000]++eR (ofQ ((1000:Int):Rat))++[I 200000,.bool false]]:=fun i hi=>by
  obtain rfl|rfl:i=0\/i=1:=J
  .rfl
  .rfl
 have hT:∀i:Nat,i<2->(x9.take (i+1)).map eT=(x9.take i).map eT++[[I (if i=0 then 5000 else 15000),I 10000,.sl [[I 0],[I 3000]],.sl [[I 4000]]]]:=fun i hi=>by
  obtain rfl|rfl:i=0\/i=1:=J
  .rfl
  .rfl
 have hlB:∀i:Nat,((Bb.take i).map eBk).length<=2:=fun i=>by rw[aR,bw];exact Az _ _
 have hlT:∀i:Nat,((x9.take i).map eT).length<=2:=fun i=>by rw[aR,bw];exact Az _ _
 have hend:cn lK=[.str [82,97,102,116],I 20000,.sl ((x9.take 2).map eT),.str [76,105,103,104,116],I 320000,I 10000,I 2000,I 0,.sl [],I 1000,.sl ((Bb.take 2).map eBk),.sl [],I 150,I 5000]:=O;rw[hend];clear hend;generalize ofQ ((1000:Int):Rat)=W at *
 suffices hz:aO 63 [] (.agg [.str [82,97,102,116],I 20000,.sl ((x9.take 2).map eT),.str [76,105,103,104,116],I 320000,I 10000,I 2000,I 0,.nil,I 1000,.sl ((Bb.take 2).map eBk),.nil,I 150,I 5000]) from
  hz.weak .nil (WeakL.agg (.cons (.rfl _) (.cons (.rfl _) (.cons (.rfl _) (.cons (.rfl _) (.cons (.rfl _) (.cons (.rfl _) (.cons (.rfl _) (.cons (.rfl _) (.cons .nil (.cons (.rfl _) (.cons (.rfl _) (.cons .nil (WeakL.refl _))))))))))))))
 refine ax Proofs.Tryz.func63 ?_;refine cN 3 ?_;refine am (Ghost.nilreg (k:=1002) (t:=2) 108 11 1 O O) ?_;refine am (Ghost.nilcell (k:=400) (k0:=1) (i:=0) (j:=2) (row:=[.str [82,97,102,116],I 20000,.nil,.str [76,105,103,104,116],I 320000,I 10000,I 2000,I 0,.nil]) 130 4 1 O O O O O O O) ?_;refine H ?_;refine aT [(0,.ptr 0 1 0 0),(1,.ptr 1 1 0 0),(2,.als 1002 1 0 0),(3,I ((0:Nat):Int))] [(0,1,⟨31,14,[[.str [],I 0,.nil,.str [],I 0,I 0,I 0,I 0,.nil,I 0,.nil,.nil,I 0,I 0]],2⟩),(1,1,⟨27,9,[[.str [82,97,102,116],I 20000,.als 400 1 0 0,.str [76,105,103,104,116],I 320000,I 10000,I 2000,I 0,.nil]],2⟩),(400,1,⟨130,4,[],1⟩),(1002,1,⟨108,11,[],1⟩)] ⟨O,O,O,O,O,O,O,O,trivial⟩ ?_;intro s0;generalize ([82,97,102,116]:List UInt8)=S1;generalize ([76,105,103,104,116]:List UInt8)=S2;refine ah (fun i:Nat=>i<=2) (fun i=>[(0,.ptr 0 1 0 0),(1,.ptr 1 1 0 0),(2,.als 1002 (1+i) 0 ((Bb.take i).map eBk).length),(3,I (i:Nat))])
  (fun i=>[(0,1,⟨31,14,[[.str [],I 0,.nil,.str [],I 0,I 0,I 0,I 0,.nil,I 0,.nil,.nil,I 0,I 0]],2⟩),(1,1,⟨27,9,[[.str S1,I 20000,.als 400 (1+i) 0 ((x9.take i).map eT).length,.str S2,I 320000,I 10000,I 2000,I 0,.nil]],2⟩),(400,1+i,⟨130,4,(x9.take i).map eT,1⟩),(1002,1+i,⟨108,11,(Bb.take i).map eBk,1⟩)]) (fun i=>2-i) 0 (aP _)
  ⟨O,O,O,O,O,O,O,O,trivial⟩ ?_
 intro i s hi;refine D ?_ ?_<;>intro h
 .have hlt:i<2:=by have:=aB h;omega
  clear h;have hBi:=hB i hlt;have hTi:=hT i hlt;have hbi:=hlB i;have hti:=hlT i;have hw:=fg i;have hx:IntKind.i64.wrap (5000+IntKind.i64.wrap (10000*((i:Nat):Int)))=if i=0 then 5000 else 15000:=by
   obtain rfl|rfl:i=0\/i=1:=J
   .rfl
   .rfl
  have h1:1+(i+1)=1+i+1:=O;generalize (Bb.take i).map eBk=B,(x9.take i).map eT=T,(if i=0 then(5000:Int) else 15000)=X at *
  refine H ?_;rw[hx];refine H ?_;refine cf O O (fw O O O O O O O O O O aH O) ?_;refine H ?_;refine cf O O (fw O O O O O O O O O O aH O) ?_;refine H ?_;refine ay (aY 1 O O O O O O O O O O O aH O ?_);refine H ?_;refine ay (bJ 1 O O O O O O O O O O O aH (by intro row hr;first|(simp at hr;subst hr;rfl)|simp at hr) O O aV aV ?_);refine G w ?_;refine H ?_;refine ay (aY 1 O O O O O O O O O O O aH O ?_);refine H ?_;refine ay (bJ 1 O O O O O O O O O O O aH (by intro row hr;first|(simp at hr;subst hr;rfl)|simp at hr) O O aV aV ?_);refine H ?_;refine⟨i+1,hlt,J,O,O,?_,congrArg I hw,O,?_,?_,?_,trivial⟩
  .rw[hBi];rfl
  .rw[hTi];rfl
  .rw[hTi];rfl
  .rw[hBi];rfl
 have hie:i=2:=by have:=aE h;omega
 clear h;subst hie;refine am (Ghost.freezeD (k:=400) (k0:=1) (i:=0) (j:=2) (row:=[.str S1,I 20000,.als 400 (1+2) 0 ((x9.take 2).map eT).length,.str S2,I 320000,I 10000,I 2000,I 0,.nil]) O O O O O O O O) ?_;refine am (Ghost.takeD (k:=1002) (t:=2) O O O) ?_;generalize (Bb.take 2).map eBk=B,(x9.take 2).map eT=T at *
 exact bW
theorem R7 {x:Int}(h:x=5000\/x=15000):BkIn (Bv x)/\(Bv x).st.sz 12:=by
 refine⟨s8 (Ba (by rcases h with rfl|rfl<;>decide)),pU ⟨Y,Y⟩⟩
theorem w9:lK.Bl:=by
 obtain⟨h1,h2⟩:=Bh (s:=lK.s) EE;refine⟨h1,h2,fun b hb=>?_,Y⟩;simp only[lK,cG,iC,or_false]at hb;rcases hb with rfl|rfl
 .exact R7 (.inl O)
 .exact R7 (.inr O)
theorem Lf:lK.Ok:=⟨⟨u4,Y,Y⟩,fun b hb=>(w9.b b hb).2⟩
theorem OF {x:Int}(h:x=5000\/x=15000):ny lK.s.st (Bv x)=jp x:=by
 have hb:iR lK.s.st (Bv x)=0:=by
  rw[iR];show(gc x 0 [yW 5000,yW 15000]).getD 0=0;rw[A_ h];rfl
 have hs:jZ (Bv x)=((1000:Int):Rat):=by
  rw[jZ,if_neg (by show ¬false=true;decide)];show(ofQ ((1000:Int):Rat)).val=_;rw[ofQ_val]
 rw[ny,hb,hs];rfl
theorem Jk:dA lK.s.st lK.bl=[jp 5000,jp 15000]:=by
 show [ny lK.s.st (Bv 5000),ny lK.s.st (Bv 15000)]=_;rw[OF (.inl O),OF (.inr O)]
theorem Fb:eH 1000 xR.st=[h_ 5000,h_ 15000]:=by
 show [iI 1000 (yW 5000),iI 1000 (yW 15000)]=_;rw[GK,GK]
theorem zp:dU lK 0=r2.l:=by
 rw[dU,Jk];show [jp 5000,jp 15000]++(eH 1000 xR.st).map (r7 0)=_;rw[Fb];rfl
theorem QL:aO 94 [.agg (fB xR),I 1000] (.tup [.sl ((eH 1000 xR.st).map eS),I 0]) :=
 tT xR u4 1000 SG Y Y w9.st w9.n
theorem GU (l:List SR)(B:BR)(h1:wB xR l=B)(h2:pB xR l=B)(hl:B.Lim)(h0:dG B=0)(h12:l.length<=1000)(hM:∀x∈l,x.k.M.length<=1000):aO 95 [.agg (fB xR),.sl (l.map eS)] (.tup [.agg (eB B),I 0]):=by
 have h:=Dx xR u4 EE l (by rw[h1];exact hl) (by rw[h2];exact hl) h12 hM;rw[h2,h0,if_pos O]at h;exact h
theorem M9:aO 31 [.agg (fB xR),I 1000] (.tup [.agg (su ⟨ofQ ((2000:Int):Rat),ofQ 0⟩ [ofQ 160000,ofQ 160000]),.agg (eR RR.zero++eR RR.zero),I 0]):=by
 have hw:=GU (eH 1000 xR.st) r1 Rt (by rw[Ru];exact Rt) OY.lim K4 (by rw[Fb];decide) (fun x hx=>by
  rw[Fb]at hx;simp only[cG,iC,or_false]at hx
  rcases hx with rfl|rfl<;>(show 2<=1000;decide))
 have h9:=Qs.weak (WeakL.refl _) (WeakL.tup (.cons (.rfl _) (.cons m9.agg (WeakL.refl _))));exact JO xR 1000 r1 (eH 1000 xR.st) 0 ⟨⟨ofQ ((2000:Int):Rat),ofQ 0⟩,[ofQ 160000,ofQ 160000],zA,0⟩ QL hw (fun _=>h9) (fun h=>absurd O h)
theorem S5 {z:Int}(h:i64 z):Va ⟨ofQ (z:Rat),ofQ 0⟩ (z:Rat) 0 4 4:=⟨Vq.ofQ (h:=⟨x5 z h⟩),Vq.ofQ (h:=HQ.zero.mono Y)⟩
theorem Oe:aO 30 [.agg (cn lK)] (.tup [.agg (eR (ofQ ((3500:Int):Rat))),I 0]):=by
 have h:=Mi lK Lf Lg w9 Y (ofQ ((2000:Int):Rat)) (ofQ 0) RR.zero RR.zero [ofQ 160000,ofQ 160000] (ha:=S5 ⟨Y,Y⟩) Y Y M9;rw[Jk]at h;have hv:∀x:Int,g_ ((2000:Int):Rat) 0 (jp x)=((3500:Int):Rat):=fun x=>by
  show(ofQ ((1500:Int):Rat)).val+(((2000:Int):Rat)+0*(x:Rat))=_;rw[ofQ_val,Rat.zero_mul,jN];decide +kernel
 have hm:kT ([jp 5000,jp 15000].map (g_ ((2000:Int):Rat) 0))=((3500:Int):Rat):=by
  show kT [g_ ((2000:Int):Rat) 0 (jp 5000),g_ ((2000:Int):Rat) 0 (jp 15000)]=_;rw[hv,hv];decide +kernel
 rw[hm]at h;exact h
def NJ:List Rat:=[160000,160000,0,0]
def rfX:DQ:=⟨ofQ 0,⟨ofQ ((-1340:Int):Rat),ofQ 0⟩,[ofQ 160000,ofQ 160000],ofQ 320000,ofQ 0,Ox,false,3⟩
theorem Qy:∀q∈NJ,hq q 100000:=fun q hm=>by
 have h4:hq q 4:=by
  simp only[NJ,cG,iC,or_false]at hm;rcases hm with rfl|rfl|rfl|rfl
  .exact x5 160000 ⟨Y,Y⟩
  .exact x5 160000 ⟨Y,Y⟩
  .exact x5 0 ⟨Y,Y⟩
  .exact x5 0 ⟨Y,Y⟩
 exact(HQ.mono (h:=⟨h4⟩) Y).ok
theorem Rm:PG lK 0 ⟨ofQ ((-1340:Int):Rat),ofQ 0⟩ NJ Ox=rfX:=by
 have h1:bB (NJ.take lK.bl.length)=320000:=by decide +kernel
 have h2:bB (NJ.drop lK.bl.length)=0:=by decide +kernel
 have h3:eJ lK.bl NJ=false:=O;have h4:kH lK.bl (NJ.take lK.bl.length) 0=3:=by decide +kernel
 rw[PG,h1,h2,h3,h4];rfl
theorem SB:aO 21 [.agg (cn lK),.agg (eR (ofQ ((0:Int):Rat)))] (.tup [.agg (fk rfX),I 0]):=by
 have v0:Vq (ofQ ((0:Int):Rat)) 0 4:=Vq.ofQ (h:=HQ.zero);have hs:=lM lK w9 ⟨Y,Y⟩ (show nk lK.s lK.d=0 from SG) u4 (ofQ ((0:Int):Rat)) (hv:=v0) Y;have hw:=GU (dU lK 0) r2 (by rw[zp,QT];rfl) (by rw[zp];exact SJ) O7.lim K5 (by rw[zp];decide) (fun x hx=>by
  rw[zp]at hx;simp only[r2,cG,iC,or_false]at hx;rcases hx with rfl|rfl|rfl|rfl
  .show 1<=1000;decide
  .show 1<=1000;decide
  .show 2<=1000;decide
  .show 2<=1000;decide)
 have h78:=Qv.weak (WeakL.refl _) (WeakL.tup (.cons (.rfl _) (.cons m9.agg (WeakL.refl _))));have h2:bB (NJ.drop lK.bl.length)=0:=by decide +kernel
 have h74:=Dh lK (ofQ ((0:Int):Rat)) (hlv:=v0) Y hs r2 hw (ofQ ((-1340:Int):Rat)) (ofQ 0) RR.zero RR.zero NJ Qy Y Y h78 Ox (z:=((-1340:Int):Rat)) (nz:=4) (hz:=Vq.ofQ (h:=⟨x5 (-1340) ⟨Y,Y⟩⟩)) Y (fun h=>absurd h2 h) (fun _=>rfl);rw[Rm]at h74;exact Jh lK Lf Lg _ rfX 0 h74
theorem mb:aO 15 [] (.bool true):=by
 have w0:=b_ 0 ⟨Y,Y⟩;have w1:=b_ 3500 ⟨Y,Y⟩;have ws:=MC [160000,160000] ao (fun z hz=>by
  simp only[cG,iC,or_false]at hz
  rcases hz with rfl|rfl<;>exact⟨Y,Y⟩)
 have e1:=Lx (p:=((3500:Int):Rat)) ⟨x5 3500 ⟨Y,Y⟩⟩ Y;have e2:=xf [ofQ 160000,ofQ 160000] Y (fun x hx=>by
  simp only[cG,iC,or_false,or_self]at hx;subst hx;have:=fF (x5 160000 ⟨Y,Y⟩)
  exact⟨bL this.1 Y,bL this.2 Y⟩)
 have r:=K7;have t:=Oe;have a:=SB;rw[show On [160000,160000]=[ofQ 160000,ofQ 160000] from O]at ws;have hX:fk rfX=eR (ofQ 0)++(eR (ofQ ((-1340:Int):Rat))++eR (ofQ 0))++[.sl ([ofQ 160000,ofQ 160000].map eR)]++eR (ofQ 320000)++eR (ofQ 0)++DE Ox++[.bool false,I 3]:=O;rw[hX]at a;clear hX;generalize lK=D0,ofQ ((0:Int):Rat)=W0,ofQ ((3500:Int):Rat)=W1,ofQ ((-1340:Int):Rat)=W2,ofQ 320000=W3,ofQ 0=W4,[ofQ (160000:Rat),ofQ (160000:Rat)]=WF at *
 refine ax Proofs.Tryz.func15 ?_;refine G r ?_;refine G t ?_;refine G r ?_;refine G w0 ?_;refine G a ?_;refine cO 23 [16,17,18,19,20,21,22,23,24,25,26,27,28,29,30,31,32,33,34,35,36,37,38] ?_;refine G w1 ?_;refine aj e1 ?_;refine H ?_;refine cf O O (fw O O O O O O O O O O aH O) ?_;refine G ws ?_;refine aj e2 ?_;exact fC
theorem lj (d:DKR)(hd:d.Ok):aO 19 [.agg (cn d)] (I (gF d)):=by
 have h1:=CY d.s hd.len.s;have h2:=A8 d.d;have h4:=dp d.gm (-100000) 100000;have h5:=dp d.oh 0 1000000;have hmb:(d.bl.map eBk).length=d.bl.length:=ao;have hmz:(d.zn.map lA).length=d.zn.length:=ao;have hsz:=hd.st;have hlb:=hd.len.bl;have hlz:=hd.len.zn;generalize hf:gF d=E;rw[gF,nk]at hf;by_cases hE:gz d.s=0
 rotate_left
 .rw[if_neg hE,if_neg hE]at hf;obtain⟨s,den,bl,zn,gm,oh⟩:=d;simp only at *
  generalize gz s=e at *
  subst hf;refine ax Proofs.Tryz.func19 ?_;refine aj h1 ?_;refine D ?_ ?_<;>intro h
  .clear h;exact co
  .simp at h;exact absurd h hE
 obtain⟨hst,h40⟩:=Bh hE;rw[hE]at h1;rw[if_pos hE]at hf;have hbr:=fun i b hb hpr hz hb40=>Eu d hst h40 hz hb40 i b hb (hsz b (bm hb)) hpr;clear hE;obtain⟨s,den,bl,zn,gm,oh⟩:=d;simp only at *
 refine ax Proofs.Tryz.func19 ?_;refine aj h1 ?_;refine aj h2 ?_;cases hi:aG den 900 1100 with
 |false =>
  rw[hi]at hf;subst hf;exact co
 |true =>
 rw[hi,if_pos O,if_pos O,jg]at hf;refine H ?_;rw[hmz];refine aS O ?_ ?_<;>intro h
 .rw[if_pos (show 20<zn.length by have:=aB h;omega),if_neg Y]at hf;subst hf;exact co
 have h20:¬20<zn.length:=by have:=aE h;omega
 clear h h1 h2;have hz0:gQ zn (ua zn)=0->jg zn=0:=fun h=>by rw[jg,if_neg h20];exact h
 rw[if_neg h20]at hf;refine H ?_;refine ah (ClearE zn (ua zn)) (fun k=>[(1,.ptr 1 1 0 0),(5,I (k:Nat))]) (fun _=>[(1,1,⟨31,14,[cn ⟨s,den,bl,zn,gm,oh⟩],2⟩)]) (fun k=>zn.length-k) 0 .zero' ⟨O,O,O,trivial⟩ ?_;intro k s1 hk;have hkl:=hk.1;refine H ?_;rw[hmz];refine aS O ?_ ?_<;>intro h
 .have hlt:k<zn.length:=by have:=aB h;omega
  clear h;obtain⟨z,hx⟩:=aC hlt;have n0:=pV z.nm;have o1:=dp z.a (-1000000) 1000000;have o2:=dp z.b (-1000000) 1000000;have o3:=dp z.h 0 100000;have hw:=fg k;have hfl:∀e,ua zn k z=e->e≠0->E=e:=fun e h he=>by
   rw[hk.found hx h he,if_neg he]at hf;exact hf.symm
  have hsu:=fun(h:ua zn k z=0)=>hk.succ hx h;rw[ua]at hfl hsu;generalize dI z.nm=b0,aG z.a (-1000000) 1000000=b2,aG z.b (-1000000) 1000000=b3,aG z.h 0 100000=b4 at *
  clear hk hf;refine aQ hx ?_;refine aj n0 ?_;cases b0
  .have:=hfl 4 (by rfl) Y;subst this;exact co
  refine H ?_;refine aT [(1,.ptr 1 1 0 0),(5,I (k:Nat)),(6,.ptr 6 ((s1.own 6).1+1) 0 0),(7,I ((0:Nat):Int))] [(1,1,⟨31,14,[cn ⟨s,den,bl,zn,gm,oh⟩],2⟩),(6,(s1.own 6).1+1,⟨132,4,[lA z],2⟩)] ⟨O,O,O,O,O,O,trivial⟩ ?_;generalize (s1.own 6).1+1=g6;intro s2;refine ah (fun j:Nat=>j<=k/\∀i u,i<j->zn[i]? = some u->u.nm≠z.nm) (fun j=>[(1,.ptr 1 1 0 0),(5,I (k:Nat)),(6,.ptr 6 g6 0 0),(7,I (j:Nat))]) (fun _=>[(1,1,⟨31,14,[cn ⟨s,den,bl,zn,gm,oh⟩],2⟩),(6,g6,⟨132,4,[lA z],2⟩)]) (fun j=>k-j) 0 ⟨aP _,fun i u hi=>absurd hi J⟩ ⟨O,O,O,O,O,O,trivial⟩ ?_;rintro j s3 ⟨hj,hall⟩;refine D ?_ ?_<;>intro h
  .have hlj:j<k:=by have:=aB h;omega
   clear h;obtain⟨u,hu⟩:=aC (show j<zn.length by omega);have hwj:IntKind.i64.wrap (((j:Nat):Int)+1)=((j+1:Nat):Int):=by rw[wrap_i64 J J];omega
   refine cO 9 [47,48,49,50,51,52,53,54,55] ?_;refine aQ hu ?_;refine D ?_ ?_<;>intro h
   .have he:u.nm=z.nm:=by simpa using h
    clear h;have hA:(zn.take k).any (fun y=>decide (y.nm=z.nm))=true:=vA hlj hu (by rw[he];simp);rw[hA]at hfl;have:=hfl 5 (by rfl) Y;subst this;exact co
   .have he:u.nm≠z.nm:=by simpa using h
    clear h;refine H ?_;refine⟨j+1,⟨hlj,fun i v hi hv=>?_⟩,J,O,O,O,congrArg I hwj,O,O,trivial⟩;rcases bG i j with g|g
    .exact hall i v g hv
    .rw[show i=j by omega,hu]at hv;cases hv;exact he
  have hje:j=k:=by have:=aE h;omega
  clear h;subst hje;have hA:(zn.take j).any (fun y=>decide (y.nm=z.nm))=false:=by
   rw[Au];intro v hv;obtain⟨i,hi⟩:=iA.1 hv;have hij:i<j:=by have:=(bV hi).1;rw[bw]at this;omega
   rw[un hij]at hi;simpa using hall i v hij hi
  rw[hA]at hfl hsu;refine aj o1 ?_;cases b2
  .have:=hfl 2 (by rfl) Y;subst this;exact co
  refine aj o2 ?_;cases b3
  .have:=hfl 2 (by rfl) Y;subst this;exact co
  refine eW ?_ ?_<;>intro h
  .have hab:=aB h;clear h;have:=hfl 2 aV Y;subst this;exact co
  have hab:=aE h;clear h;refine aj o3 ?_;cases b4
  .have:=hfl 2 ao Y;subst this;exact co
  refine H ?_;exact⟨j+1,hsu aV,J,O,congrArg I hw,O,trivial⟩
 have hge:¬k<zn.length:=by have:=aE h;omega
 clear h;have hz:jg zn=0:=hz0 (hk.none hge);have hzi:=DC hz;rw[hk.none hge,if_pos O,tu]at hf;clear hz0 hz hk;refine H ?_;rw[hmb];refine aS O ?_ ?_<;>intro h
 .rw[if_pos (show 40<bl.length by have:=aB h;omega),if_neg Y]at hf;subst hf;exact co
 have hb40:¬40<bl.length:=by have:=aE h;omega
 clear h;rw[if_neg hb40]at hf;refine H ?_;refine ah (ClearE bl (lu s.st zn bl)) (fun k=>[(1,.ptr 1 1 0 0),(8,I (k:Nat))]) (fun _=>[(1,1,⟨31,14,[cn ⟨s,den,bl,zn,gm,oh⟩],2⟩)]) (fun k=>bl.length-k) 0 .zero' ⟨O,O,O,trivial⟩ ?_;clear hkl;intro k s1 hk;have hkl:=hk.1;refine H ?_;rw[hmb];refine aS O ?_ ?_<;>intro h
 .have hlt:k<bl.length:=by have:=aB h;omega
  clear h;obtain⟨b,hx⟩:=aC hlt;have c1:=hbr k b hx (fun j c hj hc=>zy (hk.2 j c hj hc)) hzi J;have hw:=fg k;have hfl:=fun e (h:lu s.st zn bl k b=e) (he:e≠0)=>hk.found hx h he;have hsu:=fun(h:lu s.st zn bl k b=0)=>hk.succ hx h;generalize lu s.st zn bl k b=e at *
  refine aj c1 ?_;refine D ?_ ?_<;>intro h
  .have he:e≠0:=by simpa using h
   clear h;have:=hfl e O he;rw[this,if_neg he]at hf;subst hf;exact co
  .have he:e=0:=by simpa using h
   clear h;refine H ?_;exact⟨k+1,hsu he,J,O,congrArg I hw,O,trivial⟩
 have hge:¬k<bl.length:=by have:=aE h;omega
 clear h;rw[hk.none hge,if_pos O]at hf;refine aj h4 ?_;cases h4b:aG gm (-100000) 100000 with
 |false =>
  rw[h4b]at hf;subst hf;exact co
 |true =>
 rw[h4b]at hf;refine aj h5 ?_;cases h5b:aG oh 0 1000000;all_goals
  rw[h5b]at hf;subst hf;exact co
theorem Ti {n:Nat}{cs:List PV}(h:oU lay.get (n+3) 130 cs):∃t:ST,cs=eT t/\t.L.length<=9223372036854775807/\t.H0.length<=9223372036854775807:=by
 obtain⟨parts,rfl,hl,hp⟩:=n7 h O
 match parts,hl,hp with
 |[p0,p1,p2,p3],_,hp =>
  obtain⟨x,rfl,-⟩:=ug (hp 0 _ p0 O O);obtain⟨w,rfl,-⟩:=ug (hp 1 _ p1 O O);obtain⟨L,rfl,h1,-⟩:=vN (hp 2 _ p2 O O);obtain⟨H0,rfl,h2,-⟩:=vN (hp 3 _ p3 O O);exact⟨⟨x,w,L,H0⟩,O,h1,h2⟩
theorem S8 {n:Nat}{cs:List PV}(h:oU lay.get (n+2) 24 cs):∃w:LR,cs=eLd w:=by
 obtain⟨parts,rfl,hl,hp⟩:=n7 h O
 match parts,hl,hp with
 |[p0,p1,p2,p3,p4],_,hp =>
  obtain⟨a0,rfl⟩:=Br (hp 0 _ p0 O O) O;obtain⟨a1,rfl⟩:=fm (hp 1 _ p1 O O) O;obtain⟨a2,rfl⟩:=fm (hp 2 _ p2 O O) O;obtain⟨a3,rfl⟩:=fm (hp 3 _ p3 O O) O;obtain⟨a4,rfl⟩:=fm (hp 4 _ p4 O O) O;exact⟨⟨a0,a1,a2,a3,a4⟩,O⟩
theorem SE {n:Nat}{cs:List PV}(h:oU lay.get (n+5) 27 cs):∃s:SHP,cs=fB s/\s.Len:=by
 obtain⟨parts,rfl,hl,hp⟩:=n7 h O
 match parts,hl,hp with
 |[p0,p1,p2,p3,p4],_,hp =>
  obtain⟨nm,rfl⟩:=Br (hp 0 _ p0 O O) O;obtain⟨len,rfl,-⟩:=ug (hp 1 _ p1 O O);obtain⟨r1,rfl,hl1,hr1⟩:=oV (hp 2 _ p2 O O) O;obtain⟨w,rfl⟩:=S8 (hp 3 _ p3 O O);obtain⟨r2,rfl,hl2,hr2⟩:=oV (hp 4 _ p4 O O) O;obtain⟨st,rfl,hz⟩:=jA (f:=eT) (p:=fun t=>t.L.length<=9223372036854775807/\t.H0.length<=9223372036854775807) fun row hrow=>Ti (hr1 row hrow);obtain⟨it,rfl,-⟩:=jA (f:=eLd) (p:=fun _=>True) fun row hrow=>by
   obtain⟨a,rfl⟩:=S8 (hr2 row hrow);exact⟨a,O,trivial⟩
  rw[aR]at hl1 hl2;exact⟨⟨nm,len,st,w,it⟩,by simp[fB,eN],Cr hl1,Cr hl2,hz⟩
theorem Th {n:Nat}{cs:List PV}(h:oU lay.get (n+5) 108 cs):∃b:BKR,cs=eBk b:=by
 obtain⟨parts,rfl,hl,hp⟩:=n7 h O
 match parts,hl,hp with
 |[p0,p1,p2,p3,p4,p5,p6,p7],_,hp =>
  obtain⟨a0,rfl⟩:=fm (hp 0 _ p0 O O) O;obtain⟨a1,rfl⟩:=fm (hp 1 _ p1 O O) O;obtain⟨a2,rfl⟩:=fm (hp 2 _ p2 O O) O;obtain⟨a3,rfl⟩:=fm (hp 3 _ p3 O O) O;obtain⟨a4,rfl⟩:=fm (hp 4 _ p4 O O) O;obtain⟨a5,rfl⟩:=OL (hp 5 _ p5 O O);obtain⟨a6,rfl⟩:=fm (hp 6 _ p6 O O) O;obtain⟨a7,rfl⟩:=Ds (hp 7 _ p7 O O) O;exact⟨⟨a0,a1,a2,a3,a4,a5,a6,a7⟩,by simp[eBk,eR]⟩
theorem Tj {n:Nat}{cs:List PV}(h:oU lay.get (n+2) 132 cs):∃z:ZNR,cs=lA z:=by
 obtain⟨parts,rfl,hl,hp⟩:=n7 h O
 match parts,hl,hp with
 |[p0,p1,p2,p3],_,hp =>
  obtain⟨a0,rfl⟩:=Br (hp 0 _ p0 O O) O;obtain⟨a1,rfl⟩:=fm (hp 1 _ p1 O O) O;obtain⟨a2,rfl⟩:=fm (hp 2 _ p2 O O) O;obtain⟨a3,rfl⟩:=fm (hp 3 _ p3 O O) O;exact⟨⟨a0,a1,a2,a3⟩,O⟩
theorem dkD0 {c:PV}(h:argW lay.get 31 c):∃d:DKR,c = .agg (cn d)/\d.Len:=by
 obtain⟨cs,rfl,h⟩:∃cs,c = .agg cs/\oU lay.get 12 31 cs:=h;obtain⟨parts,rfl,hl,hp⟩:=n7 h O
 match parts,hl,hp with
 |[p0,p1,p2,p3,p4,p5],_,hp =>
  obtain⟨s,rfl,hs⟩:=SE (n:=6) (hp 0 _ p0 O O);obtain⟨a1,rfl⟩:=fm (hp 1 _ p1 O O) O;obtain⟨r2,rfl,hl2,hr2⟩:=oV (hp 2 _ p2 O O) O;obtain⟨r3,rfl,hl3,hr3⟩:=oV (hp 3 _ p3 O O) O;obtain⟨a4,rfl⟩:=fm (hp 4 _ p4 O O) O;obtain⟨a5,rfl⟩:=fm (hp 5 _ p5 O O) O;obtain⟨bl,rfl,-⟩:=jA (f:=eBk) (p:=fun _=>True) fun row hrow=>by
   obtain⟨a,rfl⟩:=Th (hr2 row hrow);exact⟨a,O,trivial⟩
  obtain⟨zn,rfl,-⟩:=jA (f:=lA) (p:=fun _=>True) fun row hrow=>by
   obtain⟨a,rfl⟩:=Tj (hr3 row hrow);exact⟨a,O,trivial⟩
  rw[aR]at hl2 hl3;exact⟨⟨s,a1,bl,zn,a4,a5⟩,by simp[cn],hs,Cr hl2,Cr hl3⟩
structure SmD (d:DKR):Prop where
 st:d.s.st.length<=45
 it:d.s.it.length<=205
 bl:d.bl.length<=65
 zn:d.zn.length<=25
 L:∀t∈d.s.st,t.L.length<=40/\t.H0.length<=40
 b:∀b∈d.bl,b.st.sz 3
theorem De {d:DKR}(h:IB d=true):SmD d:=by
 simp only[IB,Sa,Pg,QG,ca,lG,decide_eq_false_iff_not,cm]at h;obtain⟨⟨⟨⟨⟨h1,h2⟩,-⟩,h3⟩,h4⟩,-⟩:=h;refine⟨J,J,J,J,fun t ht=>?_,fun b hb=>?_⟩
 .have:=h2 t ht;simp only[EW,lG,decide_eq_false_iff_not]at this;omega
 .have:=h4 b hb;simp only[Q3,Ms,ca,decide_eq_true_eq]at this;exact this
theorem tU {x:RR}{n m:Nat}(h:x.sz n)(hm:n<=m):x.sz m:=⟨bL h.1 hm,bL h.2 hm⟩
theorem SmD.ok {d:DKR}(h:SmD d)(hl:d.Len):d.Ok:=⟨hl,fun b hb=>tU (h.b b hb) Y⟩
theorem ox (d:DKR)(h:SmD d):aO 18 [.agg (cn d)] (.agg (cn d)) :=
 BK d (bL h.st Y) (bL h.it Y) (bL h.bl Y) (bL h.zn Y) (fun t ht=>⟨bL (h.L t ht).1 Y,bL (h.L t ht).2 Y⟩) (fun b hb=>tU (h.b b hb) Y)
theorem MZ {d:Nat}(hd:d<=1100){w h:Int}(hh:0<=h/\h<=100000)(hw:1<=w/\w<=100000):hq (((2*h*w:Int):Rat)*((d:Rat)/1000000000)) 4:=by
 obtain⟨v1,v2⟩:=Bt hh hw;generalize 2*h*w=v at *
 have e:(v:Rat)*((d:Rat)/1000000000)=((v*(d:Int):Int):Rat)/((1000000000:Int):Rat):=by
  rw[gW,show((d:Int):Rat)=(d:Rat) from O,show((1000000000:Int):Rat)=1000000000 from O];grind
 rw[e];have h1:v*(d:Int)<=20000000000*(d:Int):=FW v2 J;have h2:0<=v*(d:Int):=j_ v1 J;refine kz Y ?_ Y;rw[show 65536^4=18446744073709551616 by decide];omega
theorem JE {d:Nat}(hd:d<=1100){t:ST}(ok:StOk t):∀x∈qD d t,∃q,x=ofQ q/\hq q 4:=fun x hx=>by
 rcases i5.1 hx with hx|hx
 .obtain⟨h,hh,rfl⟩:=bX.1 hx;exact⟨_,O,MZ hd (ok.H0 h hh) ok.w⟩
 .rw[kX.1 hx];exact⟨0,O,(HQ.zero.mono (show 4<=4 by decide)).ok⟩
def Cn (p:Rat)(W:List SR)(i:Nat):List SR:=(W.take i).map (r7 p)++W.drop i
theorem Qb {p:Rat}{W:List SR}{i:Nat}{x:SR}(hx:W[i]? = some x):(Cn p W i)[i]? = some x:=by
 have hi:=(bV hx).1;rw[Cn,eM (by rw[aR,bw];omega),aR,bw,dx,show i+(i-min i W.length)=i by omega,hx]
theorem Ni (p:Rat)(W:List SR)(i:Nat):(Cn p W i).length=W.length:=by rw[Cn,bI,aR,bw,gV];omega
theorem F9 {p:Rat}{W:List SR}{i:Nat}{x:SR}(hx:W[i]? = some x):(Cn p W i).set i (r7 p x)=Cn p W (i+1):=by
 have hi:=(bV hx).1;have hl:((W.take i).map (r7 p)).length=i:=by rw[aR,bw];omega
 rw[Cn,Cn,rm _ _ J,hl,iE,bS hx,bc,bi,jr hx];rfl
theorem Ko {p:Rat}{W:List SR}{i:Nat}{x:SR}(hx:W[i]? = some x):(Cn p W (i+1))[i]? = some (r7 p x):=by
 rw[<-F9 hx,fq (by rw[Ni];exact(bV hx).1)]
theorem nS (d:DKR)(hk:d.Bl)(hd:900<=d.d/\d.d<=1100)(lv:RR)(hlv:lv.sz 1000000):aO 38 [.agg (cn d),.agg (eR lv)] (.sl ((dU d lv.val).map eS)):=by
 have hdn:=oy hd;have h2:=ef lv (by have:=hlv.1;omega) (by have:=hlv.2;omega);have hA:(dA d.s.st d.bl).length<=40:=by rw[dA,aR];exact hk.m
 have hWl:(eH (gH d) d.s.st).length<=40:=by rw[eH,aR];exact hk.n
 rw[dU];have hB:=fun K s' d' g2 h3 c2 c3 x tys ty pos af=>@CX K s' d' g2 h3 c2 c3 x tys ty pos af d hk;have hW:=fun K s' dd k1 k2 k3 c1 c2 c3 x y tys ty pos af=>@ER K s' dd k1 k2 k3 c1 c2 c3 x y tys ty pos af d.s (gH d) J J hk.st hk.n;generalize lv.val=p,dA d.s.st d.bl=A,eH (gH d) d.s.st=W at *
 generalize gH d=dn at *
 obtain⟨s,den,bl,zn,gm,oh⟩:=d;simp only at *
 refine ax Proofs.Tryz.func38 ?_;refine cN 1 ?_;refine am (Ghost.move (k:=2) (k':=1102) (t:=2) O O O O) ?_;refine am (Ghost.move (k:=3) (k':=1103) (t:=3) O O O O) ?_
 (refine cN 1 ?_;refine aU 1 ?_)
 refine iH O ?_;refine bH ?_;refine bC O (hB _ _ _ _ _ _ _ _ _ _ _ _ O ⟨O,O,trivial⟩ fun s1 g=>?_);refine aW ?_
 (refine cN 2 ?_;refine aU 4 ?_)
 iterate 4 refine iH O ?_
 refine bH ?_;refine bC O (hW _ _ _ _ _ _ _ _ _ _ _ _ _ _ _ O (congrArg I hdn.symm) ⟨O,O,O,trivial⟩ fun s2 gw=>?_);refine aW ?_;refine H ?_;refine aT [(2,.ptr 1102 1 0 0),(3,.ptr 1103 1 0 0),(5,.als 1003 g 0 (A.map eS).length),(6,.als 1005 gw 0 (W.map eS).length),(7,I ((0:Nat):Int))] [(1102,1,⟨31,14,[cn ⟨s,den,bl,zn,gm,oh⟩],2⟩),(1103,1,⟨42,4,[eR lv],2⟩),(1003,g,⟨136,7,A.map eS,1⟩),(1005,gw,⟨136,7,W.map eS,1⟩)] ⟨O,O,O,O,O,O,O,O,O,trivial⟩ ?_;intro s3;refine ah (fun i:Nat=>i<=W.length) (fun i=>[(2,.ptr 1102 1 0 0),(3,.ptr 1103 1 0 0),(5,.als 1003 (g+i) 0 ((A++(W.take i).map (r7 p)).map eS).length),(6,.als 1005 gw 0 (W.map eS).length),(7,I (i:Nat))])
  (fun i=>[(1102,1,⟨31,14,[cn ⟨s,den,bl,zn,gm,oh⟩],2⟩),(1103,1,⟨42,4,[eR lv],2⟩),(1003,g+i,⟨136,7,(A++(W.take i).map (r7 p)).map eS,1⟩),(1005,gw,⟨136,7,(Cn p W i).map eS,1⟩)]) (fun i=>W.length-i) 0 (aP _)
  ⟨O,O,by rw[eu,gY,b8];rfl,O,O,O,O,by rw[eu,gY,b8];rfl,by rw[Cn,eu,gY,jF,ep];rfl,trivial⟩ ?_
 intro i s4 hi;have hmw:((W.map eS).length:Int)=W.length:=ao;refine D ?_ ?_<;>intro h
 .have hlt:i<W.length:=by have:=aB h;omega
  clear h;obtain⟨x,hx⟩:=aC hlt;have r1:((Cn p W i).map eS)[i]? = some (I x.x::(eR x.c++[.sl (x.k.S.map eN),.sl (x.k.M.map eR)])):=by rw[bD,Qb hx];rfl
  have r2:((Cn p W (i+1)).map eS)[i]? = some (I x.x::(eR (ofQ p)++[.sl (x.k.S.map eN),.sl (x.k.M.map eR)])):=by rw[bD,Ko hx];rfl
  have r3:((Cn p W i).map eS).set i (I x.x::(eR (ofQ p)++[.sl (x.k.S.map eN),.sl (x.k.M.map eR)]))=(Cn p W (i+1)).map eS:=by rw[<-F9 hx,f8];rfl
  have hrow:(A++(W.take (i+1)).map (r7 p)).map eS=(A++(W.take i).map (r7 p)).map eS++[I x.x::(eR (ofQ p)++[.sl (x.k.S.map eN),.sl (x.k.M.map eR)])]:=by rw[yd hx,bc];rfl
  have hw:=fg i;have hll:((A++(W.take i).map (r7 p)).map eS).length<=80:=by rw[aR,bI,aR,bw];omega
  have hb:g+(i+1)=g+i+1:=O;have hlm:(W.map eS).length=W.length:=ao;generalize (A++(W.take i).map (r7 p)).map eS=R,(Cn p W i).map eS=M at *
  generalize hM2:(Cn p W (i+1)).map eS=M2 at *
  generalize ofQ p=Q at *
  refine G h2 ?_;refine H ?_;refine nr O O O O O O O O O ?_;rw[br,aX i];refine H ?_;refine ec (cK (kd':=1) O O O r1 O O aH O O O O ?_);rw[show M.set i (pj (I x.x::(eR x.c++[.sl (x.k.S.map eN),.sl (x.k.M.map eR)])) (0+1) ((PV.agg (eR Q)).cells.map (jT 1)))=M2 from r3];refine H ?_;refine nr O O O O O O O O O ?_;rw[br,aX i];refine cf O O (dK O O O r2 O) ?_;refine H ?_;refine ay (aY 1 O O O O O O O O O O O aH O ?_);refine H ?_;refine ay (bJ 1 O O O O O O O O O O O aH (by intro row hr;first|(simp at hr;subst hr;rfl)|simp at hr) O O aV aV ?_);refine H ?_;refine⟨i+1,hlt,J,O,O,?_,O,congrArg I hw,O,O,?_,by rw[hM2];rfl,trivial⟩
  .rw[hrow,hb];rfl
  .rw[hrow,hb];rfl
 have hie:i=W.length:=by have:=aE h;omega
 clear h;subst hie;rw[bb]
 (repeat ((fail_if_success (with_reducible refine da ?_));refine qy O ?_))
 refine am (Ghost.takeD (k:=1003) (t:=4) O O O) ?_;exact bW
structure LeS (s:SR):Prop where
 c:s.c.le 1000000000
 S:s.k.S.length<=1000000
 M:s.k.M.length<=1000000
 m:∀m∈s.k.M,m.le 1000000000
theorem lC {p:Rat}{n:Nat}(h:hq p n)(hn:n<=100000000):(ofQ p).le 1000000000:=by
 have:=fF h;exact⟨bL this.1 J,bL this.2 J⟩
theorem JC {d:DKR}(hd:d.Ok)(h:gF d=0):d.Bl/\(900<=d.d/\d.d<=1100)/\nk d.s d.d=0:=by
 rw[gF]at h;split at h
 .rename_i h1;split at h
  .split at h
   .rename_i h2 h3;have hE:gz d.s=0:=by rw[nk]at h1;split at h1<;>omega
    obtain⟨a,b⟩:=Bh hE;rw[tu]at h3;split at h3
    .omega
    .refine⟨⟨a,b,fun x hx=>?_,J⟩,?_,h1⟩
     .obtain⟨j,hj⟩:=iA.1 hx;exact⟨zy (kr h3 j x hj),hd.st x hx⟩
     .rw[nk,if_pos hE]at h1;split at h1
      .rename_i h4;exact ej h4
      .omega
   .contradiction
  .contradiction
 .contradiction
namespace Bd
structure Sd (b:Bd):Prop where
 N:b.N<=11
 n:∀i,i<b.N->b.n i<=8
 X:∀i,i<b.N->hq (b.X i) 2
 C:∀i,i<b.N->hq (b.C i) 4
 S:∀i,i<b.N->∀k,k<b.n i->hq (b.S i k) 2
 M:∀i,i<b.N->∀k,k<b.n i->hq (b.M i k) 4
 w:hq b.w 4
 A:hq b.A 4
variable {b:Bd}
theorem Sd.k (h:b.Sd){p:Nat->Nat}(hp:∀i,i<b.N->p i<=b.n i){i:Nat}(hi:i<b.N):HQ (b.k p i) 4:=by
 rw[Bd.k];have h1:=hp i hi;cases hpi:p i with
 |zero=>rw[cE];exact HQ.zero
 |succ m=>exact⟨h.M i hi m J⟩
theorem Sd.bef (h:b.Sd){i:Nat}(hi:i<b.N){k:Nat}(hk:k<b.n i):HQ (cE (b.M i) k) 4:=by
 cases k with
 |zero=>rw[cE];exact HQ.zero
 |succ m=>exact⟨h.M i hi m J⟩
theorem Sd.o (h:b.Sd){p:Nat->Nat}(hp:∀i,i<b.N->p i<=b.n i){i:Nat}(hi:i<b.N):HQ (b.o p i) 100:=by
 rw[Bd.o,o_];have h1:=hp i hi;have h2:=h.n i hi;refine(b9 (m:=11) (p i) fun k hk=>?_).mono J;have:=h.bef hi (k:=k) J;have:HQ (b.M i k) 4:=⟨h.M i hi k J⟩;have:HQ (b.S i k) 2:=⟨h.S i hi k J⟩;show HQ ((b.M i k-cE (b.M i) k)*b.S i k) 11;exact inferInstanceAs (HQ ((b.M i k-cE (b.M i) k)*b.S i k) (4+4+1+2))
theorem Sd.Kh (h:b.Sd){p:Nat->Nat}(hp:∀i,i<b.N->p i<=b.n i):HQ (b.Kh p) 59:=by
 have:=h.N;exact(b9 (m:=4) b.N fun i hi=>h.k hp hi).mono J
theorem Sd.Kc (h:b.Sd){p:Nat->Nat}(hp:∀i,i<b.N->p i<=b.n i):HQ (b.Kc p) 81:=by
 have:=h.N;refine(b9 (m:=6) b.N fun i hi=>?_).mono J;have:=h.k hp hi;have:HQ (b.X i) 2:=⟨h.X i hi⟩;exact inferInstanceAs (HQ (b.k p i*b.X i) (4+2))
theorem Sd.Kp (h:b.Sd){p:Nat->Nat}(hp:∀i,i<b.N->p i<=b.n i):HQ (b.Kp p) 103:=by
 have:=h.N;refine(b9 (m:=8) b.N fun i hi=>?_).mono J;have:=h.k hp hi;have:HQ (b.X i) 2:=⟨h.X i hi⟩;exact inferInstanceAs (HQ (b.k p i*b.X i*b.X i) (4+2+2))
theorem Sd.Fo (h:b.Sd){p:Nat->Nat}(hp:∀i,i<b.N->p i<=b.n i):HQ (b.Fo p) 1214:=by
 have:=h.N;refine(b9 (m:=109) b.N fun i hi=>?_).mono J;have:=h.k hp hi;have:=h.o hp hi;have:HQ (b.C i) 4:=⟨h.C i hi⟩;exact inferInstanceAs (HQ (b.k p i*b.C i-b.o p i) (4+4+100+1))
theorem Sd.Go (h:b.Sd){p:Nat->Nat}(hp:∀i,i<b.N->p i<=b.n i):HQ (b.Go p) 1236:=by
 have:=h.N;refine(b9 (m:=111) b.N fun i hi=>?_).mono J;have:=h.k hp hi;have:=h.o hp hi;have:HQ (b.C i) 4:=⟨h.C i hi⟩;have:HQ (b.X i) 2:=⟨h.X i hi⟩;exact inferInstanceAs (HQ ((b.k p i*b.C i-b.o p i)*b.X i) (4+4+100+1+2))
theorem Sd.T (h:b.Sd):b.SzT:=fun t ht=>by
 obtain⟨p,hp,hK,ht⟩:=ht;have h1:=h.Kh hp;have h2:=h.Kc hp;have h3:=h.Kp hp;have h4:=h.Fo hp;have h5:=h.Go hp;have hw:HQ b.w 4:=⟨h.w⟩;have hA:HQ b.A 4:=⟨h.A⟩;rcases ht with⟨i,hi,k,hk,g1,g2⟩|⟨g1,g2⟩
 .have hX:HQ (b.X i) 2:=⟨h.X i hi⟩;have hC:HQ (b.C i) 4:=⟨h.C i hi⟩;have hS:HQ (b.S i k) 2:=⟨h.S i hi k hk⟩;have:t=(b.S i k-b.C i-(b.w-b.Fo p)/b.Kh p)/(b.X i-b.Kc p/b.Kh p):=by
   rw[Bd.y,Bd.ln]at g1;rw[Bd.gr]at g2;grind
  rw[this];have e:HQ ((b.S i k-b.C i-(b.w-b.Fo p)/b.Kh p)/(b.X i-b.Kc p/b.Kh p)) _:=inferInstance;exact e_ e.ok Y
 .have:t=(b.w*b.A-b.Go p-b.Kc p*((b.w-b.Fo p)/b.Kh p))/((b.Kh p*b.Kp p-b.Kc p*b.Kc p)/b.Kh p):=by
   rw[Bd.eln,Bd.ln]at g1;rw[Bd.det]at g2;grind
  rw[this];have e:HQ ((b.w*b.A-b.Go p-b.Kc p*((b.w-b.Fo p)/b.Kh p))/((b.Kh p*b.Kp p-b.Kc p*b.Kc p)/b.Kh p)) _:=inferInstance;exact e_ e.ok Y
end Bd
theorem kx {s:SHP}{d:Int}(h:nk s d=0):gz s=0:=by
 rw[nk]at h;split at h
 .assumption
 .contradiction
def dB (d:DKR)(p:Rat):BR:=wB d.s (dU d p)
theorem Sn (p:Rat):qC (ofQ p)=ofQ p:=by rw[qC,ofQ_val]
theorem lO {d:DKR}{p:Rat}{x:SR}(h:x∈dU d p):(∃b∈d.bl,x=ny d.s.st b)\/∃t∈d.s.st,x=r7 p (iI (gH d) t):=by
 rw[dU]at h;rcases i5.1 h with h|h
 .obtain⟨b,hb,e⟩:=bX.1 (show x∈d.bl.map (ny d.s.st) from h);exact .inl ⟨b,hb,e.symm⟩
 .obtain⟨w,hw,rfl⟩:=bX.1 h;obtain⟨t,ht,rfl⟩:=bX.1 (show w∈d.s.st.map (iI (gH d)) from hw);exact .inr ⟨t,ht,O⟩
theorem og (d:DKR)(p:Rat):(dU d p).length=d.bl.length+d.s.st.length:=by rw[dU,bI,dA,aR,aR,eH,aR]
theorem PD (d:DKR)(p:Rat):(dU d p).map xY=dU d p:=by
 refine(dC fun x hx=>?_).trans (List.map_id _);rcases lO hx with⟨b,-,rfl⟩|⟨t,-,rfl⟩
 .simp[xY,ny,Sn]
 .have hm:(qD (gH d) t).map qC=qD (gH d) t:=by
   refine(dC fun x hx=>?_).trans (List.map_id _);rcases i5.1 hx with hx|hx
   .obtain⟨h,-,rfl⟩:=bX.1 hx;exact Sn _
   .rw[kX.1 hx];exact Sn 0
  simp[xY,r7,iI,Sn,hm]
theorem KQ (d:DKR)(p:Rat):pB d.s (dU d p)=dB d p:=by rw[pB,PD];rfl
structure Slim (d:DKR) (p:Rat):Prop where
 ok:d.Ok
 e:gF d=0
 st:d.s.st.length<=6
 bl:d.bl.length<=5
 L:∀t∈d.s.st,t.L.length<=8
 S:∀b∈d.bl,b.st.sz 3
 p:hq p 4
theorem Fh {x:RR}{n:Nat}(h:x.sz n)(hn:1<=n):∃a b:Int,x.val=(a:Rat)/(b:Rat)/\b≠0/\a.natAbs<65536^n/\b.natAbs<65536^n :=
 ⟨x.n.val,x.d.den,O,x.d.den_ne,x.n.val_lt h.1,x.d.den_lt h.2 hn⟩
theorem JN {α β:Type}(f:α->List β)(n:Nat):∀(l:List α),(∀x∈l,(f x).length<=n)->(l.flatMap f).length<=l.length*n
 |[],_=>by simp
 |x::l,h=>by
  have h1:=h x ao;have h2:=JN f n l fun y hy=>h y (by simp[hy]);rw[j7,bI,eO,cb];omega
theorem LY {b:BKR}(h:b.st.sz 3):hq (jZ b) 4:=by
 obtain⟨x,y,e,h0,h1,h2⟩:=Fh h Y;have k3:(65536:Nat)^3=281474976710656:=Y;have k4:(65536:Nat)^4=18446744073709551616:=Y;rw[k3]at h1 h2;rw[jZ];split
 .rw[e,show(x:Rat)/(y:Rat)*2=((x*2:Int):Rat)/(y:Rat) by rw[Rat.intCast_mul,show((2:Int):Rat)=2 from O];grind];exact kz h0 J J
 .rw[e];exact kz h0 J J
theorem Slim.bd {d:DKR}{p:Rat}(h:Slim d p):d.Bl/\(900<=d.d/\d.d<=1100)/\nk d.s d.d=0:=JC h.ok h.e
theorem wi {q:Rat}{n m:Nat}(h:hq q n)(hm:n<=m):(ofQ q).sz m:=⟨bL (fF h).1 hm,bL (fF h).2 hm⟩
theorem HE {z:Int}(h : -1000000<=z/\z<=1000000):hq (z:Rat) 2:=mf (by rw[show(65536:Nat)^2=4294967296 by decide];omega) Y
theorem zG {d:DKR}{p:Rat}(h:Slim d p):(dB d p).Lim:=by
 obtain⟨hk,hd,hf⟩:=h.bd;have ok:=mV (kx hf);obtain⟨m1,m2,mq⟩:=Cq ok;refine⟨⟨by show -9223372036854775808<=sM (d.s.light::d.s.it);omega,by show sM (d.s.light::d.s.it)<=9223372036854775807;omega⟩,wi mq Y,fun x hx=>?_,by have:=og d p;have:=h.st;have:=h.bl;show(dU d p).length<=_;omega⟩;rcases lO hx with⟨b,hb,rfl⟩|⟨t,ht,rfl⟩
 .obtain⟨hin,-⟩:=hk.b b hb;have hx:=hin.x;have hz:=hin.ht;have hbi:=ou hk.st b;refine⟨⟨by show -9223372036854775808<=b.x;omega,by show b.x<=9223372036854775807;omega⟩,wi (HE (z:=b.ht-iR d.s.st b) J) Y,fun z hz=>?_,fun m hm=>?_,by show 1<=_;decide,by show 1<=_;decide⟩
  .rw[kX.1 hz];exact⟨Y,Y⟩
  .rw[kX.1 hm];exact wi (LY (h.S b hb)) Y
 .have o:=hk.st t ht;refine⟨⟨by show -9223372036854775808<=t.x;have:=o.x;omega,by show t.x<=9223372036854775807;have:=o.x;omega⟩,wi h.p Y,fun z hz=>?_,fun y hy=>?_,?_,?_⟩
  .have:=o.L z hz;exact⟨J,J⟩
  .obtain⟨q,rfl,hq⟩:=JE (d:=gH d) (by have:=oy hd;omega) o y hy;exact wi hq Y
  .show t.L.length<=1000000000;have:=o.n;omega
  .show(qD (gH d) t).length<=1000000000;rw[EV];have:=o.n;have:=o.h;omega
theorem DT {d:DKR}{p:Rat}(h:Slim d p):∀x∈dU d p,x.k.S.length<=8:=fun x hx=>by
 rcases lO hx with⟨b,-,rfl⟩|⟨t,ht,rfl⟩
 .show 1<=8;decide
 .exact h.L t ht
theorem OJ {d:DKR}{p:Rat}(h:Slim d p)(t:Rat):(pl (dU d p) t).length<=53:=by
 rw[pl,dU,uz,bI];have h1:=JN (om t) 1 (dA d.s.st d.bl) fun x hx=>by
  rw[uf];obtain⟨b,-,rfl⟩:=bX.1 (show x∈d.bl.map (ny d.s.st) from hx);exact ke 1
 have h2:=JN (om t) 8 ((eH (gH d) d.s.st).map (r7 p)) fun x hx=>by
  rw[uf];exact DT h x (by rw[dU];exact kB _ hx)
 rw[dA,aR]at h1;rw[aR,eH,aR]at h2;have:=h.st;have:=h.bl;simp only[dA,eH]at *
 omega
theorem Ri {d:DKR}{p:Rat}(h:Slim d p):(bd (dB d p)).Sd:=by
 obtain⟨hk,hd,hf⟩:=h.bd;have ok:=mV (kx hf);obtain⟨m1,m2,mq⟩:=Cq ok;have hg:∀i,i<(bd (dB d p)).N->(∃b∈d.bl,(dB d p).l.getD i dS=ny d.s.st b)\/∃t∈d.s.st,(dB d p).l.getD i dS=r7 p (iI (gH d) t):=fun i hi=>lO (bR hi);refine⟨?_,fun i hi=>DT h _ (bR hi),fun i hi=>?_,fun i hi=>?_,fun i hi k hk'=>?_,fun i hi k hk'=>?_,?_,?_⟩
 .show(dU d p).length<=11;rw[og];have:=h.st;have:=h.bl;omega
 .show hq (((dB d p).l.getD i dS).x:Rat) 2;rcases hg i hi with⟨b,hb,e⟩|⟨t,ht,e⟩
  .rw[e];exact HE (hk.b b hb).1.x
  .rw[e];exact HE (hk.st t ht).x
 .show hq ((dB d p).l.getD i dS).c.val 4;rcases hg i hi with⟨b,hb,e⟩|⟨t,ht,e⟩
  .rw[e];show hq (ofQ _).val 4;rw[ofQ_val];have hz:=(hk.b b hb).1.ht;have hbi:=ou hk.st b;exact e_ (HE J) Y
  .rw[e];show hq (ofQ p).val 4;rw[ofQ_val];exact h.p
 .show hq (((dB d p).l.getD i dS).k.s k) 2;rcases hg i hi with⟨b,hb,e⟩|⟨t,ht,e⟩
  .rw[e];show hq ((([0]:List Int).getD k 0:Int):Rat) 2;refine HE ?_
   match k with
   |0=>decide
   |k+1=>simp
  .rw[e];show hq ((t.L.getD k 0:Int):Rat) 2;refine HE ?_;have:0<=t.L.getD k 0/\t.L.getD k 0<=100000:=by
    rw[cY];cases hl:t.L[k]? with
    |none=>simp
    |some l=>exact(hk.st t ht).L l (bm hl)
   omega
 .show hq (((dB d p).l.getD i dS).k.m k) 4;have z0:hq RR.zero.val 4:=by
   have:RR.zero.val=0:=by decide +kernel
   rw[this];exact(HQ.zero.mono (show 4<=4 by decide)).ok
  rcases hg i hi with⟨b,hb,e⟩|⟨t,ht,e⟩
  .rw[e];show hq (([ofQ (jZ b)]:List RR).getD k RR.zero).val 4
   match k with
   |0=>show hq (ofQ (jZ b)).val 4;rw[ofQ_val];exact LY (h.S b hb)
   |k+1=>exact z0
  .rw[e];show hq ((qD (gH d) t).getD k RR.zero).val 4;rw[cY];cases hl:(qD (gH d) t)[k]? with
   |none=>exact z0
   |some x =>
    obtain⟨q,rfl,g⟩:=JE (d:=gH d) (by have:=oy hd;omega) (hk.st t ht) x (bm hl);show hq (ofQ q).val 4;rw[ofQ_val];exact g
 .exact x5 _ ⟨by show -9223372036854775808<=sM (d.s.light::d.s.it);omega,by show sM (d.s.light::d.s.it)<=9223372036854775807;omega⟩
 .show hq (ofQ (qX d.s)).val 4;rw[ofQ_val];exact mq
theorem jD {d:DKR}{p:Rat}(h:Slim d p):(dB d p).Good/\∀t,SortC (pl (dB d p).l t) :=
 ⟨⟨zG h,fun hc=>⟨⟨zG h,hc,by show(dU d p).length<=12;rw[og];have:=h.st;have:=h.bl;omega,DT h⟩,(Ri h).T,fun t=>bL (OJ h t) Y⟩⟩,fun t=>NW _ (bL (OJ h t) Y)⟩
end Go.Pv
namespace Go.Pv
open Go.Proofs
def dM (t:ST)(k:Nat):Rat:=((t.L.getD k 0:Int):Rat)
def ek (t:ST)(y:Rat)(k:Nat):Rat:=if y<=dM t k then 0 else if y<dM t (k+1) then y-dM t k else dM t (k+1)-dM t k
def o8 (t:ST)(k:Nat):Rat:=((2*t.H0.getD k 0:Int):Rat)
def qJ (t:ST)(y:Rat):Nat->Rat
 |0=>0
 |k+1=>qJ t y k+o8 t k*ek t y k
def Gi (t:ST)(y:Rat)(k:Nat):Rat:=o8 t k*ek t y k*(dM t k+(dM t k+ek t y k))/2
def tD (t:ST)(y:Rat):Nat->Rat
 |0=>0
 |k+1=>tD t y k+Gi t y k
def tt (t:ST)(y:Rat):Rat:=qJ t y t.H0.length
def Gg (t:ST)(y:Rat):Rat:=tD t y t.H0.length
theorem uR {t:ST}(ok:StOk t){k:Nat}(h:k+1<t.L.length):dM t k<dM t (k+1):=by
 have h0:t.L[k]? = some (t.L.getD k 0):=bF (d:=0) J;have h1:t.L[k+1]? = some (t.L.getD (k+1) 0):=bF (d:=0) h;have:=ok.asc k _ _ h0 h1;rw[dM,dM];exact Ae.2 this
theorem RB {t:ST}(ok:StOk t){j k:Nat}(hjk:k<=j):j<t.L.length->dM t k<=dM t j:=by
 induction j with
 |zero=>intro _;rw[show k=0 by omega];exact ez
 |succ j ih =>
  intro h;rcases bG j k with g|g
  .rw[show k=j+1 by omega];exact ez
  .have:=ih g J;have:=uR ok h;grind
theorem Hn {t:ST}(ok:StOk t){y:Rat}{k:Nat}(hk:k<t.H0.length)(h:y<=dM t k):∀j,k<=j->j<=t.H0.length->qJ t y j=qJ t y k/\tD t y j=tD t y k:=by
 intro j hkj
 induction j with
 |zero=>intro _;rw[show k=0 by omega];exact⟨rfl,rfl⟩
 |succ j ih =>
  intro hj;rcases bG j k with g|g
  .rw[show k=j+1 by omega];exact⟨O,O⟩
  .obtain⟨i1,i2⟩:=ih g J;have hL:=ok.h;have hle:=RB ok g J;have h0:ek t y j=0:=by rw[ek,if_pos bM]
   rw[qJ,tD,Gi,h0,i1,i2];constructor<;>grind
def Mr (t:ST)(y:Rat):Nat->Nat->Int
 |0,_=>0
 |n+1,k=>if dM t k<=y/\y<dM t (k+1) then t.H0.getD k 0 else Mr t y n (k+1)
def dP (t:ST)(y:Rat):Int:=Mr t y t.H0.length 0
def ap (f:ST->Rat):List ST->Rat:=fun l=>l.foldl (fun a t=>a+f t) 0
theorem dE (f:ST->Rat){l:List ST}{k:Nat}{t:ST}(h:l[k]? = some t):ap f (l.take (k+1))=ap f (l.take k)+f t:=by
 rw[ap,ap,bS h,j8];rfl
def aZ (z s:Rat)(t:ST):Rat:=z+s*(t.x:Rat)
def wQ (t:ST):Rat:=(t.w:Rat)
def xQ (t:ST):Rat:=(t.x:Rat)
structure HYQ where
 vol:Rat
 disp:Rat
 x:Rat
 z:Rat
 area:Rat
 flo:Rat
 cross:Rat
 long:Rat
 mtc:Rat
def bP (z s:Rat)(t:ST):Rat:=2*(dP t (aZ z s t):Rat)*wQ t
def pS (st:List ST)(d:Nat)(z s:Rat):HYQ :=
 let v:=ap (fun t=>wQ t*tt t (aZ z s t)) st;let sx:=ap (fun t=>wQ t*tt t (aZ z s t)*xQ t) st;let sz:=ap (fun t=>wQ t*Gg t (aZ z s t)) st;let a:=ap (bP z s) st;let f:=ap (fun t=>bP z s t*xQ t) st;let c:=ap (fun t=>2*(dP t (aZ z s t):Rat)*(dP t (aZ z s t):Rat)*(dP t (aZ z s t):Rat)*wQ t/3) st;let l:=ap (fun t=>bP z s t*xQ t*xQ t) st;let fl:=if a=0 then 0 else f/a
 ⟨v,v*((d:Rat)/1000000000),sx/v,sz/v,a,fl,c,if a=0 then 0 else l-a*fl*fl,sz/v+c/v⟩
end Go.Pv
set_option maxHeartbeats 2000000
namespace Go.Pv
attribute [local irreducible] PWP POps PQuiet PSem aF aw ai ak
open Go.Proofs
structure Stood (d:DKR) (p z t:Rat):Prop where
 e:dG (dB d p)=0
 bal:(bd (dB d p)).Bal z t
 hz:HQ z 24000
 ht:HQ t 20000
 s:eQ (dB d p)=⟨⟨ofQ z,ofQ t⟩,FL (dU d p) z t,zA,0⟩
theorem L5 {d:DKR}{p:Rat}(h:Slim d p)(he:(eQ (dB d p)).e=0):∃z t,Stood d p z t:=by
 rw[eQ]at he;split at he
 .rename_i h0;split at he
  .contradiction
  .rename_i h1;split at he
   .exact absurd (show(13:Int)=0 from he) Y
   .rename_i h2;split at he
    .exact absurd (show(14:Int)=0 from he) Y
    .rename_i h3;obtain⟨hb,hs,-⟩:=(jD h).1.2 h0;have hn:qE (dB d p):=⟨by simpa using h1,fun r hr=>by
      have:=Ap.1 h2 r hr
      simpa using this⟩
     obtain⟨-,hbal,hz,ht⟩:=vU hb hs hn;refine⟨_,_,h0,hbal,hz,ht,?_⟩;rw[eQ,if_pos h0,if_neg h1,h2];simp only;rw[if_neg h3];rfl
 .rename_i h0;exact absurd he h0
def vQ (d:DKR)(p z t:Rat):List Rat:=(dU d p).map fun s=>fQ s z t
theorem Oz (d:DKR)(p z t:Rat):FL (dU d p) z t=(vQ d p z t).map ofQ:=by rw[FL,vQ,jM];rfl
theorem xK (d:DKR)(p z t:Rat):(vQ d p z t).length=d.bl.length+d.s.st.length:=by rw[vQ,aR,og]
theorem L9 {l:List SR}{g:SR->Rat}:∀n,n<=l.length->bB ((l.map g).take n)=aq (fun i=>g (l.getD i dS)) n:=by
 intro n
 induction n with
 |zero=>intro _;rfl
 |succ n ih =>
  intro hn;have hx:(l.map g)[n]? = some (g (l.getD n dS)):=by rw[bD,bF (d:=dS) J];rfl
  rw[bS hx,l_,ih J,aq]
theorem Dj (a b:List Rat):bB (a++b)=bB a+bB b:=by
 have key:∀(l:List Rat) (x:Rat),l.foldl (·+·) x=x+l.foldl (·+·) 0:=by
  intro l
  induction l with
  |nil=>intro x;simp only[List.foldl_nil];grind
  |cons y l ih=>intro x;rw[List.foldl_cons,List.foldl_cons,ih (x+y),ih (0+y)];grind
 rw[bB,bB,bB,j8,key]
theorem Fa (v:List Rat)(n:Nat):bB (v.take n)+bB (v.drop n)=bB v:=by rw[<-Dj,dR]
theorem My {d:DKR}{p z t:Rat}(h:(bd (dB d p)).Bal z t):bB (vQ d p z t)=(dB d p).w:=by
 have h1:=L9 (l:=dU d p) (g:=fun s=>fQ s z t) (dU d p).length (a_);rw[cV (by rw[aR];exact a_)]at h1;exact h1.trans h.1
theorem Stood.okB {d:DKR}{p z t:Rat}(h:Slim d p)(hs:Stood d p z t):(dB d p).Ok:=((jD h).1.2 hs.e).1
theorem zk {d:DKR}{p z t:Rat}(h:Slim d p)(hs:Stood d p z t):∀q∈vQ d p z t,hq q 50000:=by
 have hb:=hs.okB h;intro q hq;obtain⟨i,hi⟩:=iA.1 hq;have hil:i<(dB d p).l.length:=by
  have:=(bV hi).1;rw[vQ,aR]at this;exact this
 have hq:q=(bd (dB d p)).f z t i:=by
  rw[vQ,bD,bF (l:=dU d p) (d:=dS) hil]at hi;exact(cB hi).symm
 have hp:=J_ hb z t;rw[hq,Bd.f_at (m_ hb) hp hil,Bd.y];have e:(bd (dB d p)).k ((bd (dB d p)).pR z t) i*((bd (dB d p)).C i+(z+t*(bd (dB d p)).X i))-(bd (dB d p)).o ((bd (dB d p)).pR z t) i=(bd (dB d p)).k ((bd (dB d p)).pR z t) i*(z+t*(bd (dB d p)).X i)+((bd (dB d p)).k ((bd (dB d p)).pR z t) i*(bd (dB d p)).C i-(bd (dB d p)).o ((bd (dB d p)).pR z t) i):=bM;rw[e];have k1:=HI hb ((bd (dB d p)).pR z t) hil;have k2:=Mo hb hil;have k3:=Kg hb (p:=(bd (dB d p)).pR z t) (fun i hi=>(hp i hi).1) hil;have hz:=hs.hz;have ht:=hs.ht;exact((@HQ.add _ _ _ _ (@HQ.mul _ _ _ _ k1 (@HQ.add _ _ _ _ hz (@HQ.mul _ _ _ _ ht k2))) k3).mono Y).ok
theorem Pj {d:DKR}{p z t:Rat}(h:Slim d p)(hs:Stood d p z t):∀q∈vQ d p z t,0<=q:=by
 have hb:=hs.okB h;intro q hq;obtain⟨i,hi⟩:=iA.1 hq;have hil:i<(dB d p).l.length:=by
  have:=(bV hi).1;rw[vQ,aR]at this;exact this
 have hq:q=(bd (dB d p)).f z t i:=by
  rw[vQ,bD,bF (l:=dU d p) (d:=dS) hil]at hi;exact(cB hi).symm
 rw[hq];exact Bd.f_nn (m_ hb) hil
theorem GI {l:List Rat}(h:∀q∈l,0<=q):0<=bB l:=by
 induction l with
 |nil=>exact ez
 |cons x l ih =>
  rw[show x::l=[x]++l from O,Dj];have h1:=h x ao;have h2:=ih fun q hq=>h q (by simp[hq]);have h3:bB [x]=x:=by show 0+x=x;grind
  grind
theorem Pk {d:Nat}{t:ST}(ok:StOk t):(∀k,k<t.H0.length->(iI d t).k.m k=wQ t*((d:Rat)/1000000000)*o8 t k)/\(iI d t).k.m t.H0.length=0:=by
 have hl:(t.H0.map (DF d t.w)).length=t.H0.length:=aR _;refine⟨fun k hk=>?_,?_⟩
 .show((qD d t).getD k RR.zero).val=_;have hx:(qD d t)[k]? = some (DF d t.w (t.H0.getD k 0)):=by rw[qD,gd J,bD,bF (d:=0) hk];rfl
  rw[cY,hx];show(ofQ _).val=_;rw[ofQ_val,o8,wQ,gW,gW];grind
 .show((qD d t).getD t.H0.length RR.zero).val=_;have hx:(qD d t)[t.H0.length]? = some (ofQ 0):=by rw[qD,eM J,hl,iE];rfl
  rw[cY,hx];show(ofQ 0).val=0;rw[ofQ_val]
theorem IU {d:Nat}{t:ST}(ok:StOk t)(y:Rat):∀j,j<=t.H0.length->aq (dj (iI d t).k.s (iI d t).k.m t.L.length y) j=wQ t*((d:Rat)/1000000000)*qJ t y j:=by
 intro j
 induction j with
 |zero=>intro _;rw[aq,qJ];grind
 |succ j ih =>
  intro hj;have hL:=ok.h;rw[aq,ih J,qJ,dj,(Pk (d:=d) ok).1 j J,jk,if_pos J];have hs:∀k,(iI d t).k.s k=dM t k:=fun k=>rfl;rw[hs,hs];have hlt:=uR ok (k:=j) J;have e:gl (wI y (dM t (j+1))-dM t j)=ek t y j:=by
   simp only[gl,wI,ek];grind
  rw[e];grind
theorem Om {d:Nat}{t:ST}(ok:StOk t)(y:Rat):kR t.L.length (iI d t).k.s (iI d t).k.m y=wQ t*((d:Rat)/1000000000)*tt t y:=by
 have ha:∀i,i+1<t.L.length->(iI d t).k.s i<(iI d t).k.s (i+1):=fun i hi=>uR ok hi;rw[kR,kJ ha,show t.L.length=t.H0.length+1 from ok.h.symm,aq,dj,(Pk (d:=d) ok).2,tt,<-IU (d:=d) ok y _ (a_),show t.H0.length+1=t.L.length from ok.h];grind
theorem IT {d:Nat}{t:ST}(ok:StOk t)(p z u:Rat):fQ (r7 p (iI d t)) z u=wQ t*tt t (aZ (z+p) u t)*((d:Rat)/1000000000):=by
 have e:yQ (r7 p (iI d t)) z u=aZ (z+p) u t:=by
  show(ofQ p).val+(z+u*(t.x:Rat))=_;rw[ofQ_val,aZ];grind
 show kR t.L.length (iI d t).k.s (iI d t).k.m (yQ (r7 p (iI d t)) z u)=_;rw[e,Om ok];grind
theorem L_ (f:ST->Rat)(c:Rat)(l:List ST):ap (fun t=>f t*c) l=ap f l*c:=by
 have key:∀(l:List ST) (a b:Rat),a=b*c->l.foldl (fun a t=>a+f t*c) a=l.foldl (fun a t=>a+f t) b*c:=by
  intro l
  induction l with
  |nil=>intro a b h;exact h
  |cons t l ih=>intro a b h;rw[List.foldl_cons,List.foldl_cons];exact ih _ _ (by rw[h];grind)
 exact key l 0 0 bM
theorem Jr {d:DKR}(hst:∀t∈d.s.st,StOk t)(p z u:Rat):bB ((vQ d p z u).drop d.bl.length)=ap (fun t=>wQ t*tt t (aZ (z+p) u t)) d.s.st*((gH d:Rat)/1000000000):=by
 have h1:(vQ d p z u).drop d.bl.length=d.s.st.map fun t=>wQ t*tt t (aZ (z+p) u t)*((gH d:Rat)/1000000000):=by
  rw[vQ,dU,bc,z6 (by rw[aR,dA,aR];exact a_),lE (by rw[aR,dA,aR];exact a_),jF,eH,jM,jM];exact dC fun t ht=>IT (hst t ht) p z u
 rw[h1,bB,List.foldl_map,<-L_];rfl
def jR (l:List Rat):Rat:=l.foldl (·*·) 1
theorem Ey (l:List Rat)(x:Rat):jR (l++[x])=jR l*x:=by rw[jR,j8];rfl
theorem Nz {N:Nat}{l:List Rat}(h:∀q∈l,hq q N):hq (jR l) (N*l.length+4):=by
 have key:∀(l:List Rat) (a:Rat) (m:Nat),hq a m->(∀q∈l,hq q N)->hq (l.foldl (·*·) a) (m+N*l.length):=by
  intro l
  induction l with
  |nil=>intro a m ha _;simpa using ha
  |cons x l ih =>
   intro a m ha hl;rw[gX,eO];have:=ih (a*x) (m+N) (@HQ.mul a x m N ⟨ha⟩ ⟨hl x gU⟩).ok fun q hq=>hl q (iB _ hq);rwa [show m+N+N*l.length=m+N*(l.length+1) by rw[cq];omega]at this
 have:=key l 1 4 HQ.one.ok h;rwa [k8]at this
theorem qz (v:List Rat)(N:Nat)(hv:∀q∈v,hq q N)(h5:v.length<=5)(hN:N<=3000000):aO 195 [.sl ((v.map ofQ).map eR)] (.agg (eR (ofQ (jR v)))):=by
 have w1:=db 1 ⟨Y,Y⟩;rw[show((1:Int):Rat)=1 from O]at w1;have hml:((v.map ofQ).map eR).length=v.length:=ao;have hs:∀i,hq (jR (v.take i)) 15000004:=fun i=>by
  have:=Nz (N:=N) (l:=v.take i) fun q hq=>hv q (d9 hq);refine(HQ.mono (q:=jR (v.take i)) (h:=⟨this⟩) ?_).ok;have h1:(v.take i).length<=5:=by rw[bw];omega
  have:=et hN h1;omega
 refine ax Proofs.Tryz.func195 ?_;refine G w1 ?_;refine H ?_;rw[hml];refine aT [(2,.ptr 2 1 0 0),(3,.ptr 3 1 0 0),(7,.sl ((v.map ofQ).map eR)),(8,I v.length),(9,I ((0:Nat):Int))] [(2,1,⟨42,4,[zN],2⟩),(3,1,⟨42,4,[eR (ofQ 1)],2⟩)] ⟨O,O,O,O,O,O,O,trivial⟩ ?_;intro s0;refine ah (fun k:Nat=>k<=v.length) (fun k=>[(2,.ptr 2 1 0 0),(3,.ptr 3 1 0 0),(7,.sl ((v.map ofQ).map eR)),(8,I v.length),(9,I (k:Nat))]) (fun k=>[(2,1,⟨42,4,[zN],2⟩),(3,1,⟨42,4,[eR (ofQ (jR (v.take k)))],2⟩)]) (fun k=>v.length-k) 0 (aP _) ⟨O,O,O,O,O,O,O,trivial⟩ ?_;intro k s hk;refine D ?_ ?_<;>intro h
 .have hlt:k<v.length:=by have:=aB h;omega
  clear h;obtain⟨q,hq⟩:=aC hlt;have hx:(v.map ofQ)[k]? = some (ofQ q):=by rw[bD,hq];rfl
  have e1:=i7 (ofQ (jR (v.take k))) (ofQ q) (hx:=Vq.ofQ (h:=⟨hs k⟩)) (hy:=Vq.ofQ (h:=⟨hv q (bm hq)⟩)) Y J;have hsn:jR (v.take (k+1))=jR (v.take k)*q:=by rw[bS hq,Ey]
  rw[<-hsn]at e1;have hw:=fg k;generalize ofQ (jR (v.take k))=P at *
  generalize hP2:ofQ (jR (v.take (k+1)))=P2 at *
  refine aQ hx ?_;refine G e1 ?_;refine H ?_;exact⟨k+1,hlt,J,O,O,O,O,congrArg I hw,O,by rw[hP2];rfl,trivial⟩
 .have hge:k=v.length:=by have:=aE h;omega
  clear h;subst hge;rw[bb];generalize ofQ (jR v)=P at *
  exact bW
theorem nZ (p q:Rat)(N:Nat)(hp:hq p N)(hq':hq q N)(hN:N<=3000000):aO 195 [.sl [eR (ofQ p),eR (ofQ q)]] (.agg (eR (ofQ (p*q)))):=by
 have h:=qz [p,q] N (fun x hx=>by
  simp only[cG,iC,or_false]at hx;rcases hx with rfl|rfl
  .exact hp
  .exact hq') ao hN
 rw[show jR [p,q]=p*q by show 1*p*q=_;rw[uP]]at h;exact h
theorem Bp (p q r:Rat)(N:Nat)(hp:hq p N)(hq':hq q N)(hr:hq r N)(hN:N<=3000000):aO 195 [.sl [eR (ofQ p),eR (ofQ q),eR (ofQ r)]] (.agg (eR (ofQ (p*q*r)))):=by
 have h:=qz [p,q,r] N (fun x hx=>by
  simp only[cG,iC,or_false]at hx;rcases hx with rfl|rfl|rfl
  .exact hp
  .exact hq'
  .exact hr) ao hN
 rw[show jR [p,q,r]=p*q*r by show 1*p*q*r=_;rw[uP]]at h;exact h
theorem QO (p q r s t:Rat)(N:Nat)(hp:hq p N)(hq':hq q N)(hr:hq r N)(hs:hq s N)(ht:hq t N)(hN:N<=3000000):aO 195 [.sl [eR (ofQ p),eR (ofQ q),eR (ofQ r),eR (ofQ s),eR (ofQ t)]] (.agg (eR (ofQ (p*q*r*s*t)))):=by
 have h:=qz [p,q,r,s,t] N (fun x hx=>by
  simp only[cG,iC,or_false]at hx;rcases hx with rfl|rfl|rfl|rfl|rfl
  .exact hp
  .exact hq'
  .exact hr
  .exact hs
  .exact ht) ao hN
 rw[show jR [p,q,r,s,t]=p*q*r*s*t by show 1*p*q*r*s*t=_;rw[uP]]at h;exact h
theorem nM {t:ST}(ok:StOk t)(k:Nat):HQ (dM t k) 4:=by
 have:0<=t.L.getD k 0/\t.L.getD k 0<=100000:=by
  rcases bG k t.L.length with h|h
  .exact ok.L _ (bm (bF (d:=0) h))
  .rw[cY,fi h];decide
 have z:Zb (t.L.getD k 0):=aJ J J;exact HQ.int
theorem wc {t:ST}(ok:StOk t)(k:Nat):0<=t.H0.getD k 0/\t.H0.getD k 0<=100000:=by
 rcases bG k t.H0.length with h|h
 .exact ok.H0 _ (bm (bF (d:=0) h))
 .rw[cY,fi h];decide
theorem B8 {t:ST}(ok:StOk t)(k:Nat):HQ (o8 t k) 4:=by
 have:=wc ok k;have z:Zb (2*t.H0.getD k 0):=aJ J J;exact HQ.int
theorem wy {t:ST}(ok:StOk t){y:Rat}{N:Nat}(hy:hq y N)(k:Nat):HQ (ek t y k) (N+9):=by
 have a:=nM ok k;have b:=nM ok (k+1);rw[ek];split
 .exact HQ.zero.mono J
 .split
  .exact(@HQ.sub _ _ N 4 ⟨hy⟩ a).mono J
  .exact(@HQ.sub _ _ 4 4 b a).mono J
theorem Fm {t:ST}(ok:StOk t){y:Rat}{N:Nat}(hy:hq y N):∀k,HQ (qJ t y k) (k*(N+14)+4)
 |0=>HQ.zero.mono J
 |k+1=>by
  rw[qJ];exact(@HQ.add _ _ _ _ (Fm ok hy k) (@HQ.mul _ _ 4 _ (B8 ok k) (wy ok hy k))).mono (by rw[cb];omega)
theorem En {t:ST}(ok:StOk t){y:Rat}{N:Nat}(hy:hq y N)(k:Nat):HQ (Gi t y k) (2*N+40):=by
 have z:Zb 2:=aJ Y Y;have l:=nM ok k;have e:=wy ok hy k;rw[Gi,show(2:Rat)=((2:Int):Rat) from O];exact(@HQ.div _ _ _ 4 (@HQ.mul _ _ _ _ (@HQ.mul _ _ 4 _ (B8 ok k) e) (@HQ.add _ _ 4 _ l (@HQ.add _ _ 4 _ l e))) HQ.int).mono J
theorem Gj {t:ST}(ok:StOk t){y:Rat}{N:Nat}(hy:hq y N):∀k,HQ (tD t y k) (k*(2*N+41)+4)
 |0=>HQ.zero.mono J
 |k+1=>by
  rw[tD];exact(@HQ.add _ _ _ _ (Gj ok hy k) (En ok hy k)).mono (by rw[cb];omega)
theorem zO (t:ST)(ok:StOk t)(h8:t.L.length<=8){y:Rat}{N:Nat}(hy:hq y N)(hN:N<=100000):aO 181 [.agg (eT t),.agg (eR (ofQ y))] (.agg (eR (ofQ (tt t y))++eR (ofQ (Gg t y)))):=by
 have w0:=db 0 ⟨Y,Y⟩;rw[show((0:Int):Rat)=0 from O]at w0;have w2:=db 2 ⟨Y,Y⟩;have hLH:=ok.h;have hmh:(t.H0.map eN).length=t.H0.length:=ao;have hHl:t.H0.length<=7:=J;have hlv:=nM ok;have hfi:=wc ok;have hfh:=B8 ok;have hlen:=fun k=>wy ok hy k;have har:=fun k=>Fm ok hy k;have hmo:=fun k=>Gj ok hy k;have hmt:=fun k=>En ok hy k;have hdry:=fun k (hk:k<t.H0.length) (h:y<=dM t k)=>Hn ok hk h t.H0.length (mt hk) (a_);have hlvi:∀k,k<t.L.length->∃n,t.L[k]? = some n/\dM t k=((n:Int):Rat)/\i64 n:=fun k hk=>by
  have h0:t.L[k]? = some (t.L.getD k 0):=bF (d:=0) hk;have:=ok.L _ (bm h0);exact⟨_,h0,O,⟨J,J⟩⟩
 have hhi:∀k,k<t.H0.length->t.H0[k]? = some (t.H0.getD k 0):=fun k hk=>bF (d:=0) hk;have z2:Zb 2:=aJ Y Y;rw[tt,Gg];refine ax Proofs.Tryz.func181 ?_;refine G w0 ?_;refine G w0 ?_;refine H ?_;rw[hmh];refine aT [(2,.ptr 2 1 0 0),(3,.ptr 3 1 0 0),(4,.ptr 4 1 0 0),(5,.ptr 5 1 0 0),(15,.sl (t.H0.map eN)),(16,I t.H0.length),(17,I ((0:Nat):Int))] [(2,1,⟨130,4,[eT t],2⟩),(3,1,⟨42,4,[eR (ofQ y)],2⟩),(4,1,⟨246,8,[zN++zN],2⟩),(5,1,⟨246,8,[eR (ofQ 0)++eR (ofQ 0)],2⟩)] ⟨O,O,O,O,O,O,O,O,O,O,O,trivial⟩ ?_;intro s0;refine ah (fun k:Nat=>k<=t.H0.length) (fun k=>[(2,.ptr 2 1 0 0),(3,.ptr 3 1 0 0),(4,.ptr 4 1 0 0),(5,.ptr 5 1 0 0),(15,.sl (t.H0.map eN)),(16,I t.H0.length),(17,I (k:Nat))]) (fun k=>[(2,1,⟨130,4,[eT t],2⟩),(3,1,⟨42,4,[eR (ofQ y)],2⟩),(4,1,⟨246,8,[zN++zN],2⟩),(5,1,⟨246,8,[eR (ofQ (qJ t y k))++eR (ofQ (tD t y k))],2⟩)]) (fun k=>t.H0.length-k) 0 (aP _) ⟨O,O,O,O,O,O,O,O,O,O,O,trivial⟩ ?_;intro k s hk;refine D ?_ ?_<;>intro h
 .have hlt:k<t.H0.length:=by have:=aB h;omega
  clear h;have hx:=hhi k hlt;obtain⟨lo,hlo,hloq,hloi⟩:=hlvi k J;obtain⟨hi,hhii,hhiq,hhi64⟩:=hlvi (k+1) J;have hdr:=hdry k hlt;have q1:IntKind.i64.wrap (((k:Nat):Int)+1)=((k+1:Nat):Int):=by rw[wrap_i64 J J];omega
  have hfi:=hfi k;have q2:IntKind.i64.wrap (2*t.H0.getD k 0)=2*t.H0.getD k 0:=wrap_i64 J J;have a1:=db lo hloi;have a2:=db hi hhi64;rw[<-hloq]at a1;rw[<-hhiq]at a2;have c1:=kw (ofQ y) (ofQ (dM t k)) (hx:=Vq.ofQ (h:=⟨hy⟩)) (hy:=Vq.ofQ (h:=hlv k)) J Y;have c2:=kw (ofQ y) (ofQ (dM t (k+1))) (hx:=Vq.ofQ (h:=⟨hy⟩)) (hy:=Vq.ofQ (h:=hlv (k+1))) J Y;have s1:=nU (y-dM t k);have s2:=cX (y-dM t (k+1));have a3:=db (2*t.H0.getD k 0) ⟨J,J⟩;rw[show((2*t.H0.getD k 0:Int):Rat)=o8 t k from O]at a3;refine aQ hx ?_;refine cN 5 ?_;refine fT [(13,8),(14,9),(15,8),(16,9)] aK aK ?_;refine aQ hlo ?_;refine G a1 ?_;refine H ?_;rw[q1];refine cf O O (i9 (n:=((((k+1:Nat):Int)):Int)) O O O O O J hhii O) ?_;refine G a2 ?_;refine H ?_;refine GW O O O O O ?_;refine GW O O O O O ?_;refine Fi 2 O O O O O O (fun _=>rfl) aH O O O O ?_;refine Fi 2 O O O O O O (fun _=>rfl) aH O O O O ?_;refine aj c1 ?_;refine D ?_ ?_<;>intro h
  .have hd:=hdr (by have:=s1.1 (aB h);grind);clear h;rw[<-hd.1,<-hd.2];generalize ofQ (qJ t y t.H0.length)=E1,ofQ (tD t y t.H0.length)=E2 at *
   exact bW
  have hy1:¬y<=dM t k:=fun e=>(aE h) (s1.2 bM);clear h hdr;have main:∀T:Rat,T=(if y<dM t (k+1) then y else dM t (k+1))->(hq T (N+5)/\T-dM t k=ek t y k/\Gi t y k=o8 t k*ek t y k*(dM t k+T)/2):=fun T hT=>by
   have e1:T-dM t k=ek t y k:=by rw[hT,ek,if_neg hy1];split<;>rfl
   refine⟨?_,e1,?_⟩
   .rw[hT];split
    .exact(HQ.mono (q:=y) (h:=⟨hy⟩) J).ok
    .exact(HQ.mono (h:=hlv (k+1)) J).ok
   .rw[Gi,show dM t k+ek t y k=T by rw[<-e1];grind]
  obtain⟨T,hT⟩:∃T,T=if y<dM t (k+1) then y else dM t (k+1):=⟨_,O⟩
  obtain⟨hTq,hTl,hTm⟩:=main T hT;clear main;have hlk:=hlen k;have hhl:HQ (o8 t k*ek t y k) (N+13):=(@HQ.mul _ _ 4 _ (hfh k) hlk).mono J;have hlt':HQ (dM t k+T) (N+10):=(@HQ.add _ _ 4 (N+5) (hlv k) ⟨hTq⟩).mono J;have hpr:HQ (o8 t k*ek t y k*(dM t k+T)) (2*N+24):=(@HQ.mul _ _ _ _ hhl hlt').mono J;have a4:=np (ofQ T) (ofQ (dM t k)) (hx:=Vq.ofQ (h:=⟨hTq⟩)) (hy:=Vq.ofQ (h:=hlv k)) J Y;rw[hTl]at a4;have a5:=nZ (o8 t k) (ek t y k) (N+9) ((hfh k).mono J).ok hlk.ok J;have hark:k*(N+14)<=7*(N+14):=cu _ J;have hmok:k*(2*N+41)<=7*(2*N+41):=cu _ J;have a6:=eY (ofQ (qJ t y k)) (ofQ (o8 t k*ek t y k)) (hx:=Vq.ofQ (h:=har k)) (hy:=Vq.ofQ (h:=hhl)) J J;rw[show qJ t y k+o8 t k*ek t y k=qJ t y (k+1) from O]at a6;have a7:=eY (ofQ (dM t k)) (ofQ T) (hx:=Vq.ofQ (h:=hlv k)) (hy:=Vq.ofQ (h:=⟨hTq⟩)) Y J;have a8:=nZ (o8 t k*ek t y k) (dM t k+T) (N+13) hhl.ok (hlt'.mono J).ok J;have a9:=nj (ofQ (o8 t k*ek t y k*(dM t k+T))) (ofQ ((2:Int):Rat)) (hx:=Vq.ofQ (h:=hpr)) (hy:=Vq.ofQ (h:=HQ.int)) J Y aK;have hmd:HQ (o8 t k*ek t y k*(dM t k+T)/2) (2*N+40):=by rw[<-hTm];exact hmt k
  rw[show((2:Int):Rat)=2 from O]at a9 w2;have a10:=eY (ofQ (tD t y k)) (ofQ (o8 t k*ek t y k*(dM t k+T)/2)) (hx:=Vq.ofQ (h:=hmo k)) (hy:=Vq.ofQ (h:=hmd)) J J;rw[<-hTm,show tD t y k+Gi t y k=tD t y (k+1) from O]at a10;rw[hTm]at a10;clear hhl hlt' hpr hmd hlk hTq hTm hTl hark hmok;by_cases hyy:y<dM t (k+1)
  .rw[if_pos hyy]at hT;have hT:=hT.symm;subst hT;have hgy:sgn (y-dM t (k+1))<0:=s2.2 bM;generalize ek t y k=ln,o8 t k=hf,dM t k=lq at *
   generalize hAR:ofQ (qJ t y (k+1))=AR at *
   generalize hMO:ofQ (tD t y (k+1))=MO at *
   generalize ofQ (qJ t y k)=AR0,ofQ (tD t y k)=MO0,ofQ y=TT,ofQ ln=LN,ofQ hf=HF,ofQ lq=LQ,ofQ (hf*ln)=HL,ofQ (lq+y)=LT,ofQ (hf*ln*(lq+y))=HLT,ofQ (hf*ln*(lq+y)/2)=HLD,ofQ 2=W2 at *
   refine aj c2 ?_;refine H ?_;rw[decide_eq_true hgy];refine H ?_;refine cN 9 ?_;refine am (fp 10) ?_;refine be [(8,10),(9,10)] aK aK ?_;refine H ?_;rw[q2];refine sT O O O a3 O O ?_;refine G a4 ?_;refine H ?_;refine cf O O (dH O O O O O O O O O O aH O) ?_;refine G a5 ?_;refine G a6 ?_;refine H ?_;refine cd [] [5] 11 [11,12] aK aK ?_;refine G a7 ?_;refine H ?_;refine cf O O (dH O O O O O O O O O O aH O) ?_;refine G a8 ?_;refine G w2 ?_;refine G a9 ?_;refine G a10 ?_;refine H ?_;exact⟨k+1,hlt,J,O,O,O,O,O,O,congrArg I q1,O,O,O,by rw[hAR,hMO];rfl,trivial⟩
  .rw[if_neg hyy]at hT;have hT:=hT.symm;subst hT;have hgy:¬sgn (y-dM t (k+1))<0:=fun e=>hyy (by have:=s2.1 e;grind);generalize dM t (k+1)=T,ek t y k=ln,o8 t k=hf,dM t k=lq at *
   generalize hAR:ofQ (qJ t y (k+1))=AR at *
   generalize hMO:ofQ (tD t y (k+1))=MO at *
   generalize ofQ (qJ t y k)=AR0,ofQ (tD t y k)=MO0,ofQ T=TT,ofQ ln=LN,ofQ hf=HF,ofQ lq=LQ,ofQ (hf*ln)=HL,ofQ (lq+T)=LT,ofQ (hf*ln*(lq+T))=HLT,ofQ (hf*ln*(lq+T)/2)=HLD,ofQ 2=W2 at *
   refine aj c2 ?_;refine H ?_;rw[decide_eq_false hgy];refine H ?_;refine cN 9 ?_;refine am (fp 10) ?_;refine be [(8,10),(9,10)] aK aK ?_;refine H ?_;rw[q2];refine sT O O O a3 O O ?_;refine G a4 ?_;refine H ?_;refine cf O O (dH O O O O O O O O O O aH O) ?_;refine G a5 ?_;refine G a6 ?_;refine H ?_;refine cd [] [5] 11 [11,12] aK aK ?_;refine G a7 ?_;refine H ?_;refine cf O O (dH O O O O O O O O O O aH O) ?_;refine G a8 ?_;refine G w2 ?_;refine G a9 ?_;refine G a10 ?_;refine H ?_;exact⟨k+1,hlt,J,O,O,O,O,O,O,congrArg I q1,O,O,O,by rw[hAR,hMO];rfl,trivial⟩
 .have hge:k=t.H0.length:=by have:=aE h;omega
  clear h;subst hge;generalize ofQ (qJ t y t.H0.length)=E1,ofQ (tD t y t.H0.length)=E2 at *
  exact bW
theorem v8 {t:ST}{y:Rat}{n k:Nat}:Mr t y (n+1) k=if dM t k<=y/\y<dM t (k+1) then t.H0.getD k 0 else Mr t y n (k+1):=rfl
theorem v_ {t:ST}(ok:StOk t)(y:Rat):0<=dP t y/\dP t y<=100000:=by
 have key:∀n k,0<=Mr t y n k/\Mr t y n k<=100000:=by
  intro n
  induction n with
  |zero=>intro k;exact⟨oM _,by show(0:Int)<=100000;decide⟩
  |succ n ih =>
   intro k;rw[v8];split
   .exact wc ok k
   .exact ih (k+1)
 exact key _ _
theorem FQ (x:RR){p:Rat}{n:Nat}[hx:Vq x p n](hn:n<=8000000):aO 241 [.agg (eR x)] (.bool (decide (p=0))):=by
 have w:=db 0 ⟨Y,Y⟩;rw[show((0:Int):Rat)=0 from O]at w;have c:=kw x (ofQ 0) (hy:=Vq.ofQ (h:=HQ.zero)) hn Y;rw[mD,uM,jN]at c;have hd:decide (p=0)=decide (sgn p=0):=decide_eq_decide.2 (gy p).symm;rw[hd];generalize ofQ 0=Z,sgn p=g at *
 refine ax Proofs.Tryz.func241 ?_;refine cO 5 [3,4,5,6,2] ?_;refine G w ?_;refine aj c ?_;exact fC
theorem BD (t:ST)(ok:StOk t){y:Rat}{N:Nat}(hy:hq y N)(hN:N<=7000000):aO 240 [.agg (eT t),.agg (eR (ofQ y))] (I (dP t y)):=by
 have hLH:=ok.h;have hLn:=ok.n;have hmh:(t.H0.map eN).length=t.H0.length:=ao;have hlv:=nM ok;have hlvi:∀k,k<t.L.length->∃n,t.L[k]? = some n/\dM t k=((n:Int):Rat)/\i64 n:=fun k hk=>by
  have h0:t.L[k]? = some (t.L.getD k 0):=bF (d:=0) hk;have:=ok.L _ (bm h0);exact⟨_,h0,O,⟨J,J⟩⟩
 have hhi:∀k,k<t.H0.length->t.H0[k]? = some (t.H0.getD k 0):=fun k hk=>bF (d:=0) hk;generalize hR:dP t y=R;rw[dP]at hR;refine ax Proofs.Tryz.func240 ?_;refine H ?_;rw[hmh];refine ah (fun k:Nat=>k<=t.H0.length/\Mr t y (t.H0.length-k) k=R) (fun k=>[(2,.ptr 2 1 0 0),(3,.ptr 3 1 0 0),(8,.sl (t.H0.map eN)),(9,I t.H0.length),(10,I (k:Nat))]) (fun k=>[(2,1,⟨130,4,[eT t],2⟩),(3,1,⟨42,4,[eR (ofQ y)],2⟩)]) (fun k=>t.H0.length-k) 0 ⟨aP _,hR⟩ ⟨O,O,O,O,O,O,O,trivial⟩ ?_;rintro k s ⟨hk,hall⟩;refine D ?_ ?_<;>intro h
 .have hlt:k<t.H0.length:=by have:=aB h;omega
  clear h;have hx:=hhi k hlt;obtain⟨lo,hlo,hloq,hloi⟩:=hlvi k J;obtain⟨hi,hhii,hhiq,hhi64⟩:=hlvi (k+1) J;have q1:IntKind.i64.wrap (((k:Nat):Int)+1)=((k+1:Nat):Int):=by rw[wrap_i64 J J];omega
  have a1:=db lo hloi;have a2:=db hi hhi64;rw[<-hloq]at a1;rw[<-hhiq]at a2;have c1:=kw (ofQ y) (ofQ (dM t k)) (hx:=Vq.ofQ (h:=⟨hy⟩)) (hy:=Vq.ofQ (h:=hlv k)) J Y;have c2:=kw (ofQ y) (ofQ (dM t (k+1))) (hx:=Vq.ofQ (h:=⟨hy⟩)) (hy:=Vq.ofQ (h:=hlv (k+1))) J Y;have s1:=Lz (y-dM t k);have s2:=cX (y-dM t (k+1));have e1:0<=y-dM t k↔dM t k<=y:=by constructor<;>intro h<;>grind
  have e2:y-dM t (k+1)<0↔y<dM t (k+1):=by constructor<;>intro h<;>grind
  rw[e1]at s1;rw[e2]at s2;rw[show t.H0.length-k=(t.H0.length-(k+1))+1 by omega,v8]at hall;generalize sgn (y-dM t k)=g1,sgn (y-dM t (k+1))=g2,ofQ (dM t k)=A1,ofQ (dM t (k+1))=A2,t.H0.getD k 0=h0 at *
  refine aQ hx ?_;refine cO 21 [15,16,17,18,19,20,21,22,23,24,25,26,27,28,29,30,31,32,33,34,35] ?_;refine aQ hlo ?_;refine G a1 ?_;refine aj c1 ?_;refine H ?_;by_cases d1:0<=g1
  rotate_left
  .rw[if_neg (fun e=>d1 (s1.2 e.1))]at hall;rw[decide_eq_false d1];refine H ?_;exact⟨k+1,⟨hlt,hall⟩,J,O,O,O,O,congrArg I q1,O,O,trivial⟩
  rw[decide_eq_true d1];refine H ?_;rw[q1];refine cf O O (i9 (n:=((((k+1:Nat):Int)):Int)) O O O O O J hhii O) ?_;refine G a2 ?_;refine aj c2 ?_;refine H ?_;by_cases d2:g2<0
  .rw[if_pos ⟨s1.1 d1,s2.1 d2⟩]at hall;rw[decide_eq_true d2];subst hall;exact co
  .rw[if_neg (fun e=>d2 (s2.2 e.2))]at hall;rw[decide_eq_false d2];refine H ?_;exact⟨k+1,⟨hlt,hall⟩,J,O,O,O,O,congrArg I q1,O,O,trivial⟩
 .have hge:k=t.H0.length:=by have:=aE h;omega
  clear h;subst hge;rw[iE,Mr]at hall;subst hall;exact co
def AQ (M:Nat)(y q:Rat):Prop:=∃a b:Int,a.natAbs<=M/\b.natAbs<=M/\q=(a:Rat)+(b:Rat)*y
def PQ (M:Nat)(y q:Rat):Prop:=∃a b c:Int,a.natAbs<=M/\b.natAbs<=M/\c.natAbs<=M/\q=(a:Rat)+(b:Rat)*y+(c:Rat)*(y*y)
def AZ (M:Nat)(z u q:Rat):Prop:=∃a b c:Int,a.natAbs<=M/\b.natAbs<=M/\c.natAbs<=M/\q=(a:Rat)+(b:Rat)*z+(c:Rat)*u
def PZ (M:Nat)(z u q:Rat):Prop:=∃a b c d e f:Int,a.natAbs<=M/\b.natAbs<=M/\c.natAbs<=M/\d.natAbs<=M/\e.natAbs<=M/\f.natAbs<=M/\q=(a:Rat)+(b:Rat)*z+(c:Rat)*u+(d:Rat)*(z*z)+(e:Rat)*(z*u)+(f:Rat)*(u*u)
theorem wO {a b:Int}{M K:Nat}(ha:a.natAbs<=M)(hb:b.natAbs<=K):(a*b).natAbs<=M*K:=by
 rw[jv];exact et ha hb
theorem rE {a b:Int}{M K:Nat}(ha:a.natAbs<=M)(hb:b.natAbs<=K):(a+b).natAbs<=M+K:=bL (Int.natAbs_add_le a b) (Nat.add_le_add ha hb)
theorem AQ.add {M K:Nat}{y p q:Rat}(h1:AQ M y p)(h2:AQ K y q):AQ (M+K) y (p+q):=by
 obtain⟨a,b,ha,hb,rfl⟩:=h1;obtain⟨c,d,hc,hd,rfl⟩:=h2;refine⟨a+c,b+d,rE ha hc,rE hb hd,?_⟩;rw[Rat.intCast_add,Rat.intCast_add];grind
theorem PQ.add {M K:Nat}{y p q:Rat}(h1:PQ M y p)(h2:PQ K y q):PQ (M+K) y (p+q):=by
 obtain⟨a,b,c,ha,hb,hc,rfl⟩:=h1;obtain⟨d,e,f,hd,he,hf,rfl⟩:=h2;refine⟨a+d,b+e,c+f,rE ha hd,rE hb he,rE hc hf,?_⟩;rw[Rat.intCast_add,Rat.intCast_add,Rat.intCast_add];grind
theorem AZ.add {M K:Nat}{z u p q:Rat}(h1:AZ M z u p)(h2:AZ K z u q):AZ (M+K) z u (p+q):=by
 obtain⟨a,b,c,ha,hb,hc,rfl⟩:=h1;obtain⟨d,e,f,hd,he,hf,rfl⟩:=h2;refine⟨a+d,b+e,c+f,rE ha hd,rE hb he,rE hc hf,?_⟩;rw[Rat.intCast_add,Rat.intCast_add,Rat.intCast_add];grind
theorem PZ.add {M K:Nat}{z u p q:Rat}(h1:PZ M z u p)(h2:PZ K z u q):PZ (M+K) z u (p+q):=by
 obtain⟨a,b,c,d,e,f,ha,hb,hc,hd,he,hf,rfl⟩:=h1;obtain⟨a',b',c',d',e',f',ha',hb',hc',hd',he',hf',rfl⟩:=h2;refine⟨a+a',b+b',c+c',d+d',e+e',f+f',rE ha ha',rE hb hb',rE hc hc',rE hd hd',rE he he',rE hf hf',?_⟩;rw[Rat.intCast_add,Rat.intCast_add,Rat.intCast_add,Rat.intCast_add,Rat.intCast_add,Rat.intCast_add];grind
theorem Ga {t:ST}(ok:StOk t)(k:Nat):0<=t.L.getD k 0/\t.L.getD k 0<=100000:=by
 rcases bG k t.L.length with h|h
 .exact ok.L _ (bm (bF (d:=0) h))
 .rw[cY,fi h];decide
theorem Mz {t:ST}(ok:StOk t)(y:Rat)(k:Nat):AQ 20000000000 y (o8 t k*ek t y k):=by
 have hf:=wc ok k;have l0:=Ga ok k;have l1:=Ga ok (k+1);rw[ek,o8,dM,dM];generalize t.H0.getD k 0=h,t.L.getD k 0=a,t.L.getD (k+1) 0=b at *
 have z2:((2:Int):Rat)=2:=O;have z0:((0:Int):Rat)=0:=O;split
 .exact⟨0,0,Y,Y,by rw[z0];grind⟩
 split
 .refine⟨-(2*h*a),2*h,?_,J,?_⟩
  .rw[uH];exact wO (M:=200000) (K:=100000) J J
  .rw[Rat.intCast_neg,Rat.intCast_mul,Rat.intCast_mul,z2];grind
 .refine⟨2*h*(b-a),0,wO (M:=200000) (K:=100000) J J,Y,?_⟩;rw[Rat.intCast_mul,Rat.intCast_mul,Rat.intCast_sub,z2,z0];grind
theorem Nk {t:ST}(ok:StOk t)(y:Rat)(k:Nat):PQ 2000000000000000 y (Gi t y k):=by
 have hf:=wc ok k;have l0:=Ga ok k;have l1:=Ga ok (k+1);rw[Gi,ek,o8,dM,dM];generalize t.H0.getD k 0=h,t.L.getD k 0=a,t.L.getD (k+1) 0=b at *
 have z2:((2:Int):Rat)=2:=O;have z0:((0:Int):Rat)=0:=O;split
 .exact⟨0,0,0,Y,Y,Y,by rw[z0];grind⟩
 split
 .refine⟨-(h*(a*a)),0,h,?_,Y,J,?_⟩
  .rw[uH];exact bL (wO (M:=100000) (K:=10000000000) J (wO (M:=100000) (K:=100000) J J)) Y
  .rw[Rat.intCast_neg,Rat.intCast_mul,Rat.intCast_mul,Rat.intCast_mul,z2,z0];grind
 .refine⟨h*((b-a)*(b+a)),0,0,?_,Y,Y,?_⟩
  .exact wO (M:=100000) (K:=20000000000) J (wO (M:=100000) (K:=200000) J J)
  .rw[Rat.intCast_mul,Rat.intCast_mul,Rat.intCast_mul,Rat.intCast_sub,Rat.intCast_add,z2,z0];grind
theorem Jf {t:ST}(ok:StOk t)(y:Rat):∀k,AQ (k*20000000000) y (qJ t y k)
 |0=>⟨0,0,Y,Y,by show(0:Rat)=((0:Int):Rat)+((0:Int):Rat)*y;rw[show((0:Int):Rat)=0 from rfl];grind⟩
 |k+1=>by rw[qJ,cb,fK];exact(Jf ok y k).add (Mz ok y k)
theorem Kt {t:ST}(ok:StOk t)(y:Rat):∀k,PQ (k*2000000000000000) y (tD t y k)
 |0=>⟨0,0,0,Y,Y,Y,by show(0:Rat)=((0:Int):Rat)+((0:Int):Rat)*y+((0:Int):Rat)*(y*y);rw[show((0:Int):Rat)=0 from rfl];grind⟩
 |k+1=>by rw[tD,cb,fK];exact(Kt ok y k).add (Nk ok y k)
theorem AQ.mono {M K:Nat}{y q:Rat}(h:AQ M y q)(hm:M<=K):AQ K y q:=by
 obtain⟨a,b,ha,hb,e⟩:=h;exact⟨a,b,J,J,e⟩
theorem PQ.mono {M K:Nat}{y q:Rat}(h:PQ M y q)(hm:M<=K):PQ K y q:=by
 obtain⟨a,b,c,ha,hb,hc,e⟩:=h;exact⟨a,b,c,J,J,J,e⟩
def bE (z s:Rat)(t:ST):Rat:=wQ t*tt t (aZ z s t)
def ns (z s:Rat)(t:ST):Rat:=wQ t*tt t (aZ z s t)*xQ t
def ko (z s:Rat)(t:ST):Rat:=wQ t*Gg t (aZ z s t)
def fR (z s:Rat)(t:ST):Rat:=bP z s t*xQ t
def dW (z s:Rat)(t:ST):Rat:=2*(dP t (aZ z s t):Rat)*(dP t (aZ z s t):Rat)*(dP t (aZ z s t):Rat)*wQ t/3
def mK (z s:Rat)(t:ST):Rat:=bP z s t*xQ t*xQ t
theorem GS {t:ST}(ok:StOk t)(h8:t.L.length<=8)(z u:Rat):AZ 14000000000000000000000 z u (bE z u t):=by
 have hw:=ok.w;have hx:=ok.x;have hH:=ok.h;obtain⟨a,b,ha,hb,e⟩:=(Jf ok (aZ z u t) t.H0.length).mono (K:=140000000000) J;refine⟨t.w*a,t.w*b,t.w*(b*t.x),?_,?_,?_,?_⟩
 .exact bL (wO (M:=100000) J ha) Y
 .exact bL (wO (M:=100000) J hb) Y
 .exact bL (wO (M:=100000) J (wO (K:=1000000) hb J)) Y
 .rw[bE,tt,e,aZ,wQ,Rat.intCast_mul,Rat.intCast_mul,Rat.intCast_mul,Rat.intCast_mul];grind
theorem QM {t:ST}(ok:StOk t)(h8:t.L.length<=8)(z u:Rat):AZ 14000000000000000000000000000 z u (ns z u t):=by
 have hx:=ok.x;obtain⟨a,b,c,ha,hb,hc,e⟩:=GS ok h8 z u;refine⟨a*t.x,b*t.x,c*t.x,?_,?_,?_,?_⟩
 .exact wO (K:=1000000) ha J
 .exact wO (K:=1000000) hb J
 .exact wO (K:=1000000) hc J
 .rw[show ns z u t=bE z u t*xQ t from O,e,xQ,Rat.intCast_mul,Rat.intCast_mul,Rat.intCast_mul];grind
theorem QN {t:ST}(ok:StOk t)(h8:t.L.length<=8)(z u:Rat):PZ 2800000000000000000000000000000000 z u (ko z u t):=by
 have hw:=ok.w;have hx:=ok.x;have hH:=ok.h;obtain⟨a,b,c,ha,hb,hc,e⟩:=(Kt ok (aZ z u t) t.H0.length).mono (K:=14000000000000000) J;refine⟨t.w*a,t.w*b,t.w*(b*t.x),t.w*c,t.w*(c*(2*t.x)),t.w*(c*(t.x*t.x)),?_,?_,?_,?_,?_,?_,?_⟩
 .exact bL (wO (M:=100000) J ha) Y
 .exact bL (wO (M:=100000) J hb) Y
 .exact bL (wO (M:=100000) J (wO (K:=1000000) hb J)) Y
 .exact bL (wO (M:=100000) J hc) Y
 .exact bL (wO (M:=100000) J (wO (K:=2000000) hc J)) Y
 .exact bL (wO (M:=100000) J (wO (K:=1000000000000) hc (wO (M:=1000000) (K:=1000000) J J))) Y
 .rw[ko,Gg,e,aZ,wQ];simp only[gW];rw[show((2:Int):Rat)=2 from O];grind
theorem tj {P:Nat->Rat->Prop}{f:ST->Rat}{M:Nat}(h0:P 0 0)(ha:∀n p q,P n p->P M q->P (n+M) (p+q)){l:List ST}(h:∀t∈l,P M (f t))(i:Nat):P ((l.take i).length*M) (ap f (l.take i)):=by
 have key:∀(l:List ST) (a:Rat) (m:Nat),P m a->(∀t∈l,P M (f t))->P (m+l.length*M) (l.foldl (fun a t=>a+f t) a):=by
  intro l
  induction l with
  |nil=>intro a m ha _;simpa using ha
  |cons x l ih =>
   intro a m h1 hl;rw[gX,eO];have:=ih (a+f x) (m+M) (ha _ _ _ h1 (hl x gU)) fun q hq=>hl q (iB _ hq);rwa [show m+M+l.length*M=m+(l.length+1)*M by rw[cb];omega]at this
 have:=key (l.take i) 0 0 h0 fun t ht=>h t (d9 ht);rwa [aX]at this
theorem AZ.zero (z u:Rat):AZ 0 z u 0:=⟨0,0,0,Y,Y,Y,by rw[show((0:Int):Rat)=0 from O];grind⟩
theorem PZ.zero (z u:Rat):PZ 0 z u 0:=⟨0,0,0,0,0,0,Y,Y,Y,Y,Y,Y,by rw[show((0:Int):Rat)=0 from O];grind⟩
theorem Nb {a:Int}{M:Nat}(h:a.natAbs<=M)(hM:M<65536^8):HQ (a:Rat) 8:=⟨mf (mC h hM) Y⟩
theorem AZ.hq {M:Nat}{z u q:Rat}{n m:Nat}(h:AZ M z u q)(hM:M<65536^8)(hz:hq z n)(hu:hq u m):HQ q (n+m+26):=by
 obtain⟨a,b,c,ha,hb,hc,rfl⟩:=h;exact(@HQ.add _ _ _ _ (@HQ.add _ _ 8 (8+n) (Nb ha hM) (@HQ.mul _ _ 8 n (Nb hb hM) ⟨hz⟩)) (@HQ.mul _ _ 8 m (Nb hc hM) ⟨hu⟩)).mono J
theorem PZ.hq {M:Nat}{z u q:Rat}{n m:Nat}(h:PZ M z u q)(hM:M<65536^8)(hz:hq z n)(hu:hq u m):HQ q (4*(n+m)+53):=by
 obtain⟨a,b,c,d,e,f,ha,hb,hc,hd,he,hf,rfl⟩:=h;exact(@HQ.add _ _ _ _ (@HQ.add _ _ _ _ (@HQ.add _ _ _ _ (@HQ.add _ _ _ _ (@HQ.add _ _ 8 (8+n) (Nb ha hM) (@HQ.mul _ _ 8 n (Nb hb hM) ⟨hz⟩)) (@HQ.mul _ _ 8 m (Nb hc hM) ⟨hu⟩)) (@HQ.mul _ _ 8 _ (Nb hd hM) (@HQ.mul _ _ n n ⟨hz⟩ ⟨hz⟩))) (@HQ.mul _ _ 8 _ (Nb he hM) (@HQ.mul _ _ n m ⟨hz⟩ ⟨hu⟩))) (@HQ.mul _ _ 8 _ (Nb hf hM) (@HQ.mul _ _ m m ⟨hu⟩ ⟨hu⟩))).mono J
theorem ve {l:List ST}(hs:∀t∈l,StOk t)(h8:∀t∈l,t.L.length<=8)(h6:l.length<=6){z u:Rat}{n m:Nat}(hz:hq z n)(hu:hq u m)(i:Nat):HQ (ap (bE z u) (l.take i)) (n+m+26)/\HQ (ap (ns z u) (l.take i)) (n+m+26)/\HQ (ap (ko z u) (l.take i)) (4*(n+m)+53):=by
 have hl:(l.take i).length<=6:=by rw[bw];omega
 refine⟨?_,?_,?_⟩
 .refine(tj (P:=fun M q=>AZ M z u q) (AZ.zero z u) (fun n p q h1 h2=>h1.add h2) (fun t ht=>GS (hs t ht) (h8 t ht) z u) i).hq ?_ hz hu;exact mC (cu _ hl) Y
 .refine(tj (P:=fun M q=>AZ M z u q) (AZ.zero z u) (fun n p q h1 h2=>h1.add h2) (fun t ht=>QM (hs t ht) (h8 t ht) z u) i).hq ?_ hz hu;exact mC (cu _ hl) Y
 .refine(tj (P:=fun M q=>PZ M z u q) (PZ.zero z u) (fun n p q h1 h2=>h1.add h2) (fun t ht=>QN (hs t ht) (h8 t ht) z u) i).hq ?_ hz hu;exact mC (cu _ hl) Y
theorem NZ {M:Nat}{f:ST->Rat}{l:List ST}(h:∀t∈l,hq (f t) M):hq (ap f l) ((M+1)*l.length+4):=by
 have key:∀(l:List ST) (a:Rat) (m:Nat),hq a m->(∀t∈l,hq (f t) M)->hq (l.foldl (fun a t=>a+f t) a) (m+(M+1)*l.length):=by
  intro l
  induction l with
  |nil=>intro a m ha _;simpa using ha
  |cons x l ih =>
   intro a m ha hl;rw[gX,eO];have:=ih (a+f x) (m+M+1) (@HQ.add a (f x) m M ⟨ha⟩ ⟨hl x gU⟩).ok fun q hq=>hl q (iB _ hq);rwa [show m+M+1+(M+1)*l.length=m+(M+1)*(l.length+1) by rw[cq];omega]at this
 have:=key l 0 4 HQ.zero.ok h;rwa [k8]at this
theorem jb {M:Nat}{f:ST->Rat}{l:List ST}(h:∀t∈l,hq (f t) M)(h6:l.length<=6)(i:Nat):HQ (ap f (l.take i)) (6*M+10):=by
 have:=NZ (M:=M) (l:=l.take i) fun t ht=>h t (d9 ht);refine HQ.mono (h:=⟨this⟩) ?_;have h1:(l.take i).length<=6:=by rw[bw];omega
 have:=dw (M+1) h1;omega
def Lo (v x z a f c l:RR):List PV:=eR v++zN++eR x++eR z++eR a++eR f++eR c++eR l++zN
def FG (x:HYQ):List PV:=eR (ofQ x.vol)++eR (ofQ x.disp)++eR (ofQ x.x)++eR (ofQ x.z)++eR (ofQ x.area)++eR (ofQ x.flo)++eR (ofQ x.cross)++eR (ofQ x.long)++eR (ofQ x.mtc)
theorem yz (st:List ST)(d:Nat)(z u:Rat):(ap (bP z u) st=0/\FG (pS st d z u)=eR (ofQ (ap (bE z u) st))++eR (ofQ (ap (bE z u) st*((d:Rat)/1000000000)))++eR (ofQ (ap (ns z u) st/ap (bE z u) st))++eR (ofQ (ap (ko z u) st/ap (bE z u) st))++eR (ofQ (ap (bP z u) st))++eR (ofQ 0)++eR (ofQ (ap (dW z u) st))++eR (ofQ 0)++eR (ofQ (ap (ko z u) st/ap (bE z u) st+ap (dW z u) st/ap (bE z u) st))) \/
  (ap (bP z u) st≠0/\∃f l:Rat,f=ap (fR z u) st/ap (bP z u) st/\l=ap (mK z u) st-ap (bP z u) st*f*f/\FG (pS st d z u)=eR (ofQ (ap (bE z u) st))++eR (ofQ (ap (bE z u) st*((d:Rat)/1000000000)))++eR (ofQ (ap (ns z u) st/ap (bE z u) st))++eR (ofQ (ap (ko z u) st/ap (bE z u) st))++eR (ofQ (ap (bP z u) st))++eR (ofQ f)++eR (ofQ (ap (dW z u) st))++eR (ofQ l)++eR (ofQ (ap (ko z u) st/ap (bE z u) st+ap (dW z u) st/ap (bE z u) st))):=by
 by_cases hA:ap (bP z u) st=0
 .refine Or.inl ⟨hA,?_⟩;have:pS st d z u=⟨ap (bE z u) st,ap (bE z u) st*((d:Rat)/1000000000),ap (ns z u) st/ap (bE z u) st,ap (ko z u) st/ap (bE z u) st,ap (bP z u) st,if ap (bP z u) st=0 then 0 else ap (fR z u) st/ap (bP z u) st,ap (dW z u) st,if ap (bP z u) st=0 then 0 else ap (mK z u) st-ap (bP z u) st*(if ap (bP z u) st=0 then 0 else ap (fR z u) st/ap (bP z u) st)*(if ap (bP z u) st=0 then 0 else ap (fR z u) st/ap (bP z u) st),ap (ko z u) st/ap (bE z u) st+ap (dW z u) st/ap (bE z u) st⟩:=O;rw[this,if_pos hA,if_pos hA];rfl
 .refine Or.inr ⟨hA,_,_,O,O,?_⟩;have:pS st d z u=⟨ap (bE z u) st,ap (bE z u) st*((d:Rat)/1000000000),ap (ns z u) st/ap (bE z u) st,ap (ko z u) st/ap (bE z u) st,ap (bP z u) st,if ap (bP z u) st=0 then 0 else ap (fR z u) st/ap (bP z u) st,ap (dW z u) st,if ap (bP z u) st=0 then 0 else ap (mK z u) st-ap (bP z u) st*(if ap (bP z u) st=0 then 0 else ap (fR z u) st/ap (bP z u) st)*(if ap (bP z u) st=0 then 0 else ap (fR z u) st/ap (bP z u) st),ap (ko z u) st/ap (bE z u) st+ap (dW z u) st/ap (bE z u) st⟩:=O;rw[this,if_neg hA,if_neg hA];rfl
theorem HU (p:Rat)(n:Nat)(hp:hq p n)(hn:n<=2999000)(d:Nat)(h1:1<=d)(h2:d<=1000000000):aO 172 [.agg (eR (ofQ p)),I (d:Nat)] (.agg (eR (ofQ (p*((d:Rat)/1000000000))))):=by
 have z1:Zb (d:Int):=aJ J J;have z2:Zb 1000000000:=aJ Y Y;have w1:=db (d:Int) ⟨J,J⟩;have w2:=db 1000000000 ⟨Y,Y⟩;have c1:=nZ p ((d:Int):Rat) (n+4) (HQ.mono (h:=⟨hp⟩) J).ok ((HQ.int (z:=(d:Int))).mono J).ok J;have c2:=nj (ofQ (p*((d:Int):Rat))) (ofQ ((1000000000:Int):Rat)) (hx:=Vq.ofQ (h:=@HQ.mul _ _ n 4 ⟨hp⟩ HQ.int)) (hy:=Vq.ofQ (h:=HQ.int)) J Y aK;rw[show p*((d:Int):Rat)/((1000000000:Int):Rat)=p*((d:Rat)/1000000000) by rw[show((d:Int):Rat)=(d:Rat) from O,show((1000000000:Int):Rat)=1000000000 from O];grind]at c2;generalize ofQ (p*((d:Rat)/1000000000))=X3,ofQ (p*((d:Int):Rat))=X2,ofQ ((d:Int):Rat)=X1,ofQ ((1000000000:Int):Rat)=X0,ofQ p=X at *
 refine ax Proofs.Tryz.func172 ?_;refine cO 3 [5,6,7] ?_;refine G w1 ?_;refine H ?_;refine cf O O (dH O O O O O O O O O O aH O) ?_;refine G c1 ?_;refine G w2 ?_;refine G c2 ?_;exact bW
theorem E_ {t:ST}(ok:StOk t)(h8:t.L.length<=8){z s:Rat}{N:Nat}(hy:hq (aZ z s t) N):HQ (wQ t) 4/\HQ (xQ t) 4/\HQ (dP t (aZ z s t):Rat) 4/\HQ (tt t (aZ z s t)) (7*N+102)/\HQ (Gg t (aZ z s t)) (14*N+291)/\HQ (bP z s t) 12:=by
 have hw:=ok.w;have hx:=ok.x;have ha:=v_ ok (aZ z s t);have zw:Zb t.w:=aJ J J;have zx:Zb t.x:=aJ J J;have za:Zb (dP t (aZ z s t)):=aJ J J;have z2:Zb 2:=aJ Y Y;have hH:=ok.h;have hk:t.H0.length<=7:=J;have k1:=cu (N+14) hk;have k2:=cu (2*N+41) hk;refine⟨HQ.int,HQ.int,HQ.int,(Fm ok hy t.H0.length).mono J,(Gj ok hy t.H0.length).mono J,?_⟩;rw[bP,show(2:Rat)=((2:Int):Rat) from O];exact(@HQ.mul _ _ _ 4 (@HQ.mul _ _ 4 4 HQ.int HQ.int) HQ.int)
theorem DS {t:ST}{z u:Rat}(c3:HQ (dP t (aZ z u t):Rat) 4)(c1:HQ (wQ t) 4):hq (dW z u t) 24:=by
 have z2:Zb 2:=aJ Y Y;have z3:Zb 3:=aJ Y Y;have q2:HQ (2:Rat) 4:=by rw[show(2:Rat)=((2:Int):Rat) from O];exact HQ.int
 have q3:HQ (3:Rat) 4:=by rw[show(3:Rat)=((3:Int):Rat) from O];exact HQ.int
 exact(@HQ.div _ _ 20 4 (@HQ.mul _ _ 16 4 (@HQ.mul _ _ 12 4 (@HQ.mul _ _ 8 4 (@HQ.mul _ _ 4 4 q2 c3) c3) c3) c1) q3).ok
set_option maxHeartbeats 16000000 in
theorem Hy (s:SHP)(hst:∀t∈s.st,StOk t)(h6:s.st.length<=6)(h8:∀t∈s.st,t.L.length<=8)(a:AR){z u:Rat}{n m:Nat}[ha:Va a z u n m](hnm:n+m<=49000)(d:Nat)(hd1:1<=d)(hd2:d<=1000000000)(hv0:ap (bE z u) s.st≠0) :
  aO 193 [.agg (fB s),.agg (eA a),I (d:Nat)] (.tup [.agg (FG (pS s.st d z u)),.bool true]):=by
 have w0:=db 0 ⟨Y,Y⟩;rw[show((0:Int):Rat)=0 from O]at w0;have w2:=db 2 ⟨Y,Y⟩;rw[show((2:Int):Rat)=2 from O]at w2;have w3:=db 3 ⟨Y,Y⟩;rw[show((3:Int):Rat)=3 from O]at w3;have z2:Zb 2:=aJ Y Y;have z3:Zb 3:=aJ Y Y;have q2:HQ (2:Rat) 4:=by rw[show(2:Rat)=((2:Int):Rat) from O];exact HQ.int
 have q3:HQ (3:Rat) 4:=by rw[show(3:Rat)=((3:Int):Rat) from O];exact HQ.int
 have hms:(s.st.map eT).length=s.st.length:=ao;have hyq:∀t∈s.st,hq (aZ z u t) (n+m+12):=fun t ht=>by
  have hx:=(hst t ht).x;have zx:Zb t.x:=aJ J J;exact(HQ.mono (h:=@HQ.add _ _ (n+1) (m+1+4) ha.z.hq (@HQ.mul _ _ (m+1) 4 ha.t.hq HQ.int)) J).ok
 have hsum:=fun i=>ve hst h8 h6 ha.z.hq.ok ha.t.hq.ok i;generalize hNN:n+m+12=N at *
 have hN:N<=49012:=J;have hsz:=fun t ht=>E_ (hst t ht) (h8 t ht) (hyq t ht);have b4:∀t∈s.st,hq (bP z u t) 12:=fun t ht=>(hsz t ht).2.2.2.2.2.ok;have b5:∀t∈s.st,hq (fR z u t) 16:=fun t ht=>by
  obtain⟨c1,c2,c3,c4,c5,c6⟩:=hsz t ht;exact(@HQ.mul _ _ 12 4 c6 c2).ok
 have b6:∀t∈s.st,hq (dW z u t) 24:=fun t ht=>by
  obtain⟨c1,c2,c3,c4,c5,c6⟩:=hsz t ht;exact(@HQ.div _ _ 20 4 (@HQ.mul _ _ 16 4 (@HQ.mul _ _ 12 4 (@HQ.mul _ _ 8 4 (@HQ.mul _ _ 4 4 q2 c3) c3) c3) c1) q3).ok
 have b7:∀t∈s.st,hq (mK z u t) 20:=fun t ht=>by
  obtain⟨c1,c2,c3,c4,c5,c6⟩:=hsz t ht;exact(@HQ.mul _ _ 16 4 (@HQ.mul _ _ 12 4 c6 c2) c2).ok
 have s1:∀i,HQ (ap (bE z u) (s.st.take i)) (N+16):=fun i=>(hsum i).1.mono J;have s2:∀i,HQ (ap (ns z u) (s.st.take i)) (N+16):=fun i=>(hsum i).2.1.mono J;have s3:∀i,HQ (ap (ko z u) (s.st.take i)) (4*N+13):=fun i=>(hsum i).2.2.mono J;have s4:=fun i=>jb b4 h6 i;have s5:=fun i=>jb b5 h6 i;have s6:=fun i=>jb b6 h6 i;have s7:=fun i=>jb b7 h6 i;clear b4 b5 b6 b7 hsum;obtain⟨nm,len,st,light,it⟩:=s;obtain⟨az,au⟩:=a;simp only at *
 refine ax Proofs.Tryz.func193 ?_;refine G w0 ?_;refine H ?_;rw[hms];refine aT [(2,I (d:Nat)),(3,.ptr 3 1 0 0),(4,.ptr 4 1 0 0),(6,.ptr 6 1 0 0),(9,.ptr 9 1 0 0),(28,.sl (st.map eT)),(29,I st.length),(30,I ((0:Nat):Int))] [(3,1,⟨27,9,[fB ⟨nm,len,st,light,it⟩],2⟩),(4,1,⟨45,8,[eA ⟨az,au⟩],2⟩),(6,1,⟨217,36,[zN++zN++zN++zN++zN++zN++zN++zN++zN],2⟩),(9,1,⟨217,36,[Lo (ofQ 0) (ofQ 0) (ofQ 0) (ofQ 0) (ofQ 0) (ofQ 0) (ofQ 0)],2⟩)] ⟨O,O,O,O,O,O,O,O,O,O,O,O,trivial⟩ ?_;intro s0;refine ah (fun i:Nat=>i<=st.length) (fun i=>[(2,I (d:Nat)),(3,.ptr 3 1 0 0),(4,.ptr 4 1 0 0),(6,.ptr 6 1 0 0),(9,.ptr 9 1 0 0),(28,.sl (st.map eT)),(29,I st.length),(30,I (i:Nat))]) (fun i=>[(3,1,⟨27,9,[fB ⟨nm,len,st,light,it⟩],2⟩),(4,1,⟨45,8,[eA ⟨az,au⟩],2⟩),(6,1,⟨217,36,[zN++zN++zN++zN++zN++zN++zN++zN++zN],2⟩),(9,1,⟨217,36,[Lo (ofQ (ap (bE z u) (st.take i))) (ofQ (ap (ns z u) (st.take i))) (ofQ (ap (ko z u) (st.take i))) (ofQ (ap (bP z u) (st.take i))) (ofQ (ap (fR z u) (st.take i))) (ofQ (ap (dW z u) (st.take i))) (ofQ (ap (mK z u) (st.take i)))],2⟩)]) (fun i=>st.length-i) 0 (aP _) ⟨O,O,O,O,O,O,O,O,O,O,O,O,trivial⟩ ?_;intro i s1' hi;refine D ?_ ?_<;>intro h
 .have hlt:i<st.length:=by have:=aB h;omega
  clear h;obtain⟨t,hx⟩:=aC hlt;have htm:=bm hx;have ok:=hst t htm;have hyt:=hyq t htm;obtain⟨c1,c2,c3,c4,c5,c6⟩:=hsz t htm;have i64x:i64 t.x:=by have:=ok.x;exact⟨J,J⟩
  have i64w:i64 t.w:=by have:=ok.w;exact⟨J,J⟩
  have i64h:i64 (dP t (aZ z u t)):=by have:=v_ ok (aZ z u t);exact⟨J,J⟩
  have e1:=wt ⟨az,au⟩ t.x i64x (ha:=ha) J J;rw[show z+u*(t.x:Rat)=aZ z u t from O]at e1;have e2:=db t.w i64w;rw[show((t.w:Int):Rat)=wQ t from O]at e2;have e3:=db t.x i64x;rw[show((t.x:Int):Rat)=xQ t from O]at e3;have e4:=zO t ok (h8 t htm) hyt J;have e5:=BD t ok hyt J;have e6:=db (dP t (aZ z u t)) i64h;have m1:=nZ (wQ t) (tt t (aZ z u t)) (7*N+102) (c1.mono J).ok c4.ok J;have m2:=Bp (wQ t) (tt t (aZ z u t)) (xQ t) (7*N+102) (c1.mono J).ok c4.ok (c2.mono J).ok J;have m3:=nZ (wQ t) (Gg t (aZ z u t)) (14*N+291) (c1.mono J).ok c5.ok J;have m4:=Bp 2 (dP t (aZ z u t):Rat) (wQ t) 4 q2.ok c3.ok c1.ok Y;have m5:=nZ (bP z u t) (xQ t) 12 c6.ok (c2.mono Y).ok Y;have m6:=QO 2 (dP t (aZ z u t):Rat) (dP t (aZ z u t):Rat) (dP t (aZ z u t):Rat) (wQ t) 4 q2.ok c3.ok c3.ok c3.ok c1.ok Y;have m7:=nj (ofQ (2*(dP t (aZ z u t):Rat)*(dP t (aZ z u t):Rat)*(dP t (aZ z u t):Rat)*wQ t)) (ofQ 3) (hx:=Vq.ofQ (h:=@HQ.mul _ _ 16 4 (@HQ.mul _ _ 12 4 (@HQ.mul _ _ 8 4 (@HQ.mul _ _ 4 4 q2 c3) c3) c3) c1)) (hy:=Vq.ofQ (h:=q3)) Y Y Y;have m8:=Bp (bP z u t) (xQ t) (xQ t) 12 c6.ok (c2.mono Y).ok (c2.mono Y).ok Y;have d1:=eY (ofQ (ap (bE z u) (st.take i))) (ofQ (bE z u t)) (hx:=Vq.ofQ (h:=s1 i)) (hy:=Vq.ofQ (h:=@HQ.mul _ _ 4 _ c1 c4)) J J;have d2:=eY (ofQ (ap (ns z u) (st.take i))) (ofQ (ns z u t)) (hx:=Vq.ofQ (h:=s2 i)) (hy:=Vq.ofQ (h:=@HQ.mul _ _ _ 4 (@HQ.mul _ _ 4 _ c1 c4) c2)) J J;have d3:=eY (ofQ (ap (ko z u) (st.take i))) (ofQ (ko z u t)) (hx:=Vq.ofQ (h:=s3 i)) (hy:=Vq.ofQ (h:=@HQ.mul _ _ 4 _ c1 c5)) J J;have d4:=eY (ofQ (ap (bP z u) (st.take i))) (ofQ (bP z u t)) (hx:=Vq.ofQ (h:=s4 i)) (hy:=Vq.ofQ (h:=c6)) J J;have d5:=eY (ofQ (ap (fR z u) (st.take i))) (ofQ (fR z u t)) (hx:=Vq.ofQ (h:=s5 i)) (hy:=Vq.ofQ (h:=@HQ.mul _ _ 12 4 c6 c2)) J J;have d6:=eY (ofQ (ap (dW z u) (st.take i))) (ofQ (dW z u t)) (hx:=Vq.ofQ (h:=s6 i)) (hy:=Vq.ofQ (h:=@HQ.div _ _ 20 4 (@HQ.mul _ _ 16 4 (@HQ.mul _ _ 12 4 (@HQ.mul _ _ 8 4 (@HQ.mul _ _ 4 4 q2 c3) c3) c3) c1) q3)) J J;have d7:=eY (ofQ (ap (mK z u) (st.take i))) (ofQ (mK z u t)) (hx:=Vq.ofQ (h:=s7 i)) (hy:=Vq.ofQ (h:=@HQ.mul _ _ 16 4 (@HQ.mul _ _ 12 4 c6 c2) c2)) J J;rw[<-dE (bE z u) hx]at d1;rw[<-dE (ns z u) hx]at d2;rw[<-dE (ko z u) hx]at d3;rw[<-dE (bP z u) hx]at d4;rw[<-dE (fR z u) hx]at d5;rw[<-dE (dW z u) hx]at d6;rw[<-dE (mK z u) hx]at d7;rw[show wQ t*tt t (aZ z u t)=bE z u t from O]at m1;rw[show wQ t*tt t (aZ z u t)*xQ t=ns z u t from O]at m2;rw[show wQ t*Gg t (aZ z u t)=ko z u t from O]at m3;rw[show 2*(dP t (aZ z u t):Rat)*wQ t=bP z u t from O]at m4;rw[show bP z u t*xQ t=fR z u t from O]at m5;rw[show 2*(dP t (aZ z u t):Rat)*(dP t (aZ z u t):Rat)*(dP t (aZ z u t):Rat)*wQ t/3=dW z u t from O]at m7;rw[show bP z u t*xQ t*xQ t=mK z u t from O]at m8;clear s1 s2 s3 s4 s5 s6 s7 hsz c1 c2 c3 c4 c5 c6;have hw:=fg i;generalize hN0:ofQ (ap (bE z u) (st.take (i+1)))=N0 at *
  generalize ofQ (ap (bE z u) (st.take i))=O0,ofQ (bE z u t)=F0 at *
  generalize hN1:ofQ (ap (ns z u) (st.take (i+1)))=N1 at *
  generalize ofQ (ap (ns z u) (st.take i))=O1,ofQ (ns z u t)=F1 at *
  generalize hN2:ofQ (ap (ko z u) (st.take (i+1)))=N2 at *
  generalize ofQ (ap (ko z u) (st.take i))=O2,ofQ (ko z u t)=F2 at *
  generalize hN3:ofQ (ap (bP z u) (st.take (i+1)))=N3 at *
  generalize ofQ (ap (bP z u) (st.take i))=O3,ofQ (bP z u t)=F3 at *
  generalize hN4:ofQ (ap (fR z u) (st.take (i+1)))=N4 at *
  generalize ofQ (ap (fR z u) (st.take i))=O4,ofQ (fR z u t)=F4 at *
  generalize hN5:ofQ (ap (dW z u) (st.take (i+1)))=N5 at *
  generalize ofQ (ap (dW z u) (st.take i))=O5,ofQ (dW z u t)=F5 at *
  generalize hN6:ofQ (ap (mK z u) (st.take (i+1)))=N6 at *
  generalize ofQ (ap (mK z u) (st.take i))=O6,ofQ (mK z u t)=F6,ofQ (2*(dP t (aZ z u t):Rat)*(dP t (aZ z u t):Rat)*(dP t (aZ z u t):Rat)*wQ t)=C0,ofQ (tt t (aZ z u t))=A0,ofQ (Gg t (aZ z u t))=M0,ofQ (dP t (aZ z u t):Rat)=H0 at *
  generalize dP t (aZ z u t)=hh,ofQ (aZ z u t)=Y0,ofQ (wQ t)=W0,ofQ (xQ t)=X0,ofQ 2=T2,ofQ 3=T3 at *
  refine aQ hx ?_;refine cN 6 ?_;refine fT [(10,12),(11,13),(12,14),(13,12),(14,13),(15,14)] aK aK ?_;refine G e1 ?_;refine G e2 ?_;refine G e3 ?_;refine H ?_;refine GW O O O O O ?_;refine GW O O O O O ?_;refine GW O O O O O ?_;refine Fi 2 O O O O O O (fun _=>rfl) aH O O O O ?_;refine Fi 2 O O O O O O (fun _=>rfl) aH O O O O ?_;refine Fi 2 O O O O O O (fun _=>rfl) aH O O O O ?_;refine G e4 ?_;refine H ?_;refine cd [] [9] 8 [8,9] aK aK ?_;refine H ?_;refine cf O O (dH O O O O O O O O O O aH O) ?_;refine G m1 ?_;refine G d1 ?_;refine H ?_;refine cd [] [9] 9 [9,10] aK aK ?_;refine H ?_;refine cf O O (dH O O O O O O O O O O aH O) ?_;refine G m2 ?_;refine G d2 ?_;refine H ?_;refine cd [] [9] 8 [8,9] aK aK ?_;refine H ?_;refine cf O O (dH O O O O O O O O O O aH O) ?_;refine G m3 ?_;refine G d3 ?_;refine cN 11 ?_;refine aT [(2,I (d:Nat)),(3,.ptr 3 1 0 0),(4,.ptr 4 1 0 0),(6,.ptr 6 1 0 0),(9,.ptr 9 1 0 0),(28,.sl (st.map eT)),(29,I st.length),(30,I (i:Nat)),(11,.ptr 11 ((s1'.own 11).1+1) 0 0),(12,.ptr 12 ((s1'.own 12).1+1) 0 0),(13,.ptr 13 ((s1'.own 13).1+1) 0 0),(14,.ptr 14 ((s1'.own 14).1+1) 0 0)] [(3,1,⟨27,9,[fB ⟨nm,len,st,light,it⟩],2⟩),(4,1,⟨45,8,[eA ⟨az,au⟩],2⟩),(6,1,⟨217,36,[zN++zN++zN++zN++zN++zN++zN++zN++zN],2⟩),(9,1,⟨217,36,[Lo N0 N1 N2 O3 O4 O5 O6],2⟩),(11,((s1'.own 11).1+1),⟨130,4,[eT t],2⟩),(12,((s1'.own 12).1+1),⟨42,4,[eR Y0],2⟩),(13,((s1'.own 13).1+1),⟨42,4,[eR W0],2⟩),(14,((s1'.own 14).1+1),⟨42,4,[eR X0],2⟩)] ⟨O,O,O,O,O,O,O,O,O,O,O,O,O,O,O,O,O,O,O,O,trivial⟩ ?_;generalize (s1'.own 11).1+1=g11;generalize (s1'.own 12).1+1=g12;generalize (s1'.own 13).1+1=g13;generalize (s1'.own 14).1+1=g14;intro s2';refine aj e5 ?_;refine G e6 ?_;refine cN 12 ?_;refine am (fp 17) ?_;refine be [(5,17),(6,17)] aK aK ?_;refine G w2 ?_;refine H ?_;refine cf O O (dH O O O O O O O O O O aH O) ?_;refine G m4 ?_;refine G d4 ?_;refine cN 14 ?_;refine aT [(2,I (d:Nat)),(3,.ptr 3 1 0 0),(4,.ptr 4 1 0 0),(6,.ptr 6 1 0 0),(9,.ptr 9 1 0 0),(28,.sl (st.map eT)),(29,I st.length),(30,I (i:Nat)),(11,.ptr 11 g11 0 0),(12,.ptr 12 g12 0 0),(13,.ptr 13 g13 0 0),(14,.ptr 14 g14 0 0),(16,.ptr 16 ((s2'.own 16).1+1) 0 0),(17,.ptr 17 ((s2'.own 17).1+3) 0 0)] [(3,1,⟨27,9,[fB ⟨nm,len,st,light,it⟩],2⟩),(4,1,⟨45,8,[eA ⟨az,au⟩],2⟩),(6,1,⟨217,36,[zN++zN++zN++zN++zN++zN++zN++zN++zN],2⟩),(9,1,⟨217,36,[Lo N0 N1 N2 N3 O4 O5 O6],2⟩),(11,g11,⟨130,4,[eT t],2⟩),(12,g12,⟨42,4,[eR Y0],2⟩),(13,g13,⟨42,4,[eR W0],2⟩),(14,g14,⟨42,4,[eR X0],2⟩),(16,((s2'.own 16).1+1),⟨42,4,[eR H0],2⟩),(17,((s2'.own 17).1+3),⟨42,4,[eR F3],2⟩)] ⟨O,O,O,O,O,O,O,O,O,O,O,O,O,O,O,O,O,O,O,O,O,O,O,O,trivial⟩ ?_;generalize (s2'.own 16).1+1=g16;generalize (s2'.own 17).1+3=g17;intro s3';refine cd [] [9] 7 [7,8] aK aK ?_;refine H ?_;refine cf O O (dH O O O O O O O O O O aH O) ?_;refine G m5 ?_;refine G d5 ?_;refine H ?_;refine cd [] [9] 12 [12,13] aK aK ?_;refine G w2 ?_;refine H ?_;refine cf O O (dH O O O O O O O O O O aH O) ?_;refine G m6 ?_;refine G w3 ?_;refine G m7 ?_;refine G d6 ?_;refine cN 16 ?_;refine aT [(2,I (d:Nat)),(3,.ptr 3 1 0 0),(4,.ptr 4 1 0 0),(6,.ptr 6 1 0 0),(9,.ptr 9 1 0 0),(28,.sl (st.map eT)),(29,I st.length),(30,I (i:Nat)),(11,.ptr 11 g11 0 0),(12,.ptr 12 g12 0 0),(13,.ptr 13 g13 0 0),(14,.ptr 14 g14 0 0),(16,.ptr 16 g16 0 0),(17,.ptr 17 g17 0 0)] [(3,1,⟨27,9,[fB ⟨nm,len,st,light,it⟩],2⟩),(4,1,⟨45,8,[eA ⟨az,au⟩],2⟩),(6,1,⟨217,36,[zN++zN++zN++zN++zN++zN++zN++zN++zN],2⟩),(9,1,⟨217,36,[Lo N0 N1 N2 N3 N4 N5 O6],2⟩),(11,g11,⟨130,4,[eT t],2⟩),(12,g12,⟨42,4,[eR Y0],2⟩),(13,g13,⟨42,4,[eR W0],2⟩),(14,g14,⟨42,4,[eR X0],2⟩),(16,g16,⟨42,4,[eR H0],2⟩),(17,g17,⟨42,4,[eR F3],2⟩)] ⟨O,O,O,O,O,O,O,O,O,O,O,O,O,O,O,O,O,O,O,O,O,O,O,O,trivial⟩ ?_;intro s4';refine cd [] [9] 8 [8,9] aK aK ?_;refine H ?_;refine cf O O (dH O O O O O O O O O O aH O) ?_;refine G m8 ?_;refine G d7 ?_;refine H ?_;exact⟨i+1,hlt,J,O,O,O,O,O,O,O,congrArg I hw,O,O,O,by rw[hN0,hN1,hN2,hN3,hN4,hN5,hN6];rfl,trivial⟩
 have hie:i=st.length:=by have:=aE h;omega
 clear h;subst hie;rw[bb];have k1:=s1 st.length;have k2:=s2 st.length;have k3:=s3 st.length;have k4:=s4 st.length;have k5:=s5 st.length;have k6:=s6 st.length;have k7:=s7 st.length;rw[bb]at k1 k2 k3 k4 k5 k6 k7;clear s1 s2 s3 s4 s5 s6 s7 hsz hyq;have g0:=FQ (ofQ (ap (bE z u) st)) (hx:=Vq.ofQ (h:=k1)) J;rw[decide_eq_false hv0]at g0;have g1:=HU (ap (bE z u) st) (N+16) k1.ok J d hd1 hd2;have g2:=nj (ofQ (ap (ns z u) st)) (ofQ (ap (bE z u) st)) (hx:=Vq.ofQ (h:=k2)) (hy:=Vq.ofQ (h:=k1)) J J hv0;have g3:=nj (ofQ (ap (ko z u) st)) (ofQ (ap (bE z u) st)) (hx:=Vq.ofQ (h:=k3)) (hy:=Vq.ofQ (h:=k1)) J J hv0;have g4:=FQ (ofQ (ap (bP z u) st)) (hx:=Vq.ofQ (h:=k4)) Y;have g5:=nj (ofQ (ap (dW z u) st)) (ofQ (ap (bE z u) st)) (hx:=Vq.ofQ (h:=k6)) (hy:=Vq.ofQ (h:=k1)) J J hv0;have g6:=eY (ofQ (ap (ko z u) st/ap (bE z u) st)) (ofQ (ap (dW z u) st/ap (bE z u) st)) (hx:=Vq.ofQ (h:=@HQ.div _ _ _ _ k3 k1)) (hy:=Vq.ofQ (h:=@HQ.div _ _ _ _ k6 k1)) J J;have hcases:(ap (bP z u) st=0/\FG (pS st d z u)=eR (ofQ (ap (bE z u) st))++eR (ofQ (ap (bE z u) st*((d:Rat)/1000000000)))++eR (ofQ (ap (ns z u) st/ap (bE z u) st))++eR (ofQ (ap (ko z u) st/ap (bE z u) st))++eR (ofQ (ap (bP z u) st))++eR (ofQ 0)++eR (ofQ (ap (dW z u) st))++eR (ofQ 0)++eR (ofQ (ap (ko z u) st/ap (bE z u) st+ap (dW z u) st/ap (bE z u) st))) \/
  (ap (bP z u) st≠0/\∃f l:Rat,f=ap (fR z u) st/ap (bP z u) st/\l=ap (mK z u) st-ap (bP z u) st*f*f/\FG (pS st d z u)=eR (ofQ (ap (bE z u) st))++eR (ofQ (ap (bE z u) st*((d:Rat)/1000000000)))++eR (ofQ (ap (ns z u) st/ap (bE z u) st))++eR (ofQ (ap (ko z u) st/ap (bE z u) st))++eR (ofQ (ap (bP z u) st))++eR (ofQ f)++eR (ofQ (ap (dW z u) st))++eR (ofQ l)++eR (ofQ (ap (ko z u) st/ap (bE z u) st+ap (dW z u) st/ap (bE z u) st))):=yz st d z u
 generalize FG (pS st d z u)=RES at *
 rcases hcases with⟨hA,hres⟩|⟨hA,f,l,hf,hl,hres⟩
 .subst hres;rw[decide_eq_true hA]at g4;clear k1 k2 k3 k4 k5 k6 k7 hA hv0;generalize ofQ (ap (ko z u) st/ap (bE z u) st+ap (dW z u) st/ap (bE z u) st)=G0,ofQ (ap (bE z u) st*((d:Rat)/1000000000))=G1,ofQ (ap (ns z u) st/ap (bE z u) st)=G2,ofQ (ap (ko z u) st/ap (bE z u) st)=G3,ofQ (ap (dW z u) st/ap (bE z u) st)=G4,ofQ (ap (bE z u) st)=G5,ofQ (ap (ns z u) st)=G6,ofQ (ap (ko z u) st)=G7,ofQ (ap (bP z u) st)=G8,ofQ (ap (fR z u) st)=G9,ofQ (ap (dW z u) st)=G10,ofQ (ap (mK z u) st)=G11,ofQ 0=G12 at *
  refine aj g0 ?_;refine G g1 ?_;refine H ?_;refine cd [] [9] 11 [11,12,13] aK aK ?_;refine G g2 ?_;refine G g3 ?_;refine cN 22 ?_;refine aT [(6,.ptr 6 1 0 0),(9,.ptr 9 1 0 0)] [(6,1,⟨217,36,[zN++zN++zN++zN++zN++zN++zN++zN++zN],2⟩),(9,1,⟨217,36,[eR G5++eR G1++eR G2++eR G3++eR G8++eR G9++eR G10++eR G11++zN],2⟩)] ⟨O,O,O,O,trivial⟩ ?_;intro s5;refine aj g4 ?_;refine G w0 ?_;refine G w0 ?_;refine cN 26 ?_;refine aT [(6,.ptr 6 1 0 0),(9,.ptr 9 1 0 0)] [(6,1,⟨217,36,[zN++zN++zN++zN++zN++zN++zN++zN++zN],2⟩),(9,1,⟨217,36,[eR G5++eR G1++eR G2++eR G3++eR G8++eR G12++eR G10++eR G12++zN],2⟩)] ⟨O,O,O,O,trivial⟩ ?_;intro s6;refine cd [] [9] 8 [8,9] aK aK ?_;refine G g5 ?_;refine G g6 ?_;exact bW
 .subst hres;rw[decide_eq_false hA]at g4;have g7:=nj (ofQ (ap (fR z u) st)) (ofQ (ap (bP z u) st)) (hx:=Vq.ofQ (h:=k5)) (hy:=Vq.ofQ (h:=k4)) Y Y hA;rw[<-hf]at g7;have hfq:HQ f 220:=by rw[hf];exact(@HQ.div _ _ _ _ k5 k4).mono Y
  have g8:=Bp (ap (bP z u) st) f f 220 (k4.mono Y).ok hfq.ok hfq.ok Y;have g9:=np (ofQ (ap (mK z u) st)) (ofQ (ap (bP z u) st*f*f)) (hx:=Vq.ofQ (h:=k7)) (hy:=Vq.ofQ (h:=@HQ.mul _ _ _ _ (@HQ.mul _ _ _ _ k4 hfq) hfq)) Y Y;rw[<-hl]at g9;clear k1 k2 k3 k4 k5 k6 k7 hA hv0 hfq;generalize ofQ (ap (ko z u) st/ap (bE z u) st+ap (dW z u) st/ap (bE z u) st)=G0,ofQ (ap (bE z u) st*((d:Rat)/1000000000))=G1,ofQ (ap (ns z u) st/ap (bE z u) st)=G2,ofQ (ap (ko z u) st/ap (bE z u) st)=G3,ofQ (ap (dW z u) st/ap (bE z u) st)=G4,ofQ (ap (bP z u) st*f*f)=G5,ofQ f=G6,ofQ l=G7,ofQ (ap (bE z u) st)=G8,ofQ (ap (ns z u) st)=G9,ofQ (ap (ko z u) st)=G10,ofQ (ap (bP z u) st)=G11,ofQ (ap (fR z u) st)=G12,ofQ (ap (dW z u) st)=G13,ofQ (ap (mK z u) st)=G14,ofQ 0=G15 at *
  refine aj g0 ?_;refine G g1 ?_;refine H ?_;refine cd [] [9] 11 [11,12,13] aK aK ?_;refine G g2 ?_;refine G g3 ?_;refine cN 22 ?_;refine aT [(6,.ptr 6 1 0 0),(9,.ptr 9 1 0 0)] [(6,1,⟨217,36,[zN++zN++zN++zN++zN++zN++zN++zN++zN],2⟩),(9,1,⟨217,36,[eR G8++eR G1++eR G2++eR G3++eR G11++eR G12++eR G13++eR G14++zN],2⟩)] ⟨O,O,O,O,trivial⟩ ?_;intro s5;refine aj g4 ?_;refine G g7 ?_;refine H ?_;refine cd [] [9] 11 [11,12] aK aK ?_;refine H ?_;refine cf O O (dH O O O O O O O O O O aH O) ?_;refine G g8 ?_;refine G g9 ?_;refine cN 26 ?_;refine aT [(6,.ptr 6 1 0 0),(9,.ptr 9 1 0 0)] [(6,1,⟨217,36,[zN++zN++zN++zN++zN++zN++zN++zN++zN],2⟩),(9,1,⟨217,36,[eR G8++eR G1++eR G2++eR G3++eR G11++eR G6++eR G13++eR G7++zN],2⟩)] ⟨O,O,O,O,trivial⟩ ?_;intro s6;refine cd [] [9] 8 [8,9] aK aK ?_;refine G g5 ?_;refine G g6 ?_;exact bW
def jh (s:SHP):List LR:=s.light::s.it
def qZ (s:SHP):Rat:=(sZ (jh s):Rat)/(sM (jh s):Rat)
def mQ (s:SHP):Rat:=(sM (jh s):Rat)
def gK (s:SHP)(p:Rat):Rat:=mQ s-p
def FJ (s:SHP):Rat:=((1000*sF (jh s):Int):Rat)
def AJ (s:SHP)(p me:Rat):Rat:=gK s p*me-mQ s*qZ s-FJ s
def IJ (s:SHP)(p me:Rat):STQ:=⟨ofQ me,ofQ (qZ s),ofQ (AJ s p me/mQ s),ofQ (AJ s p me/gK s p)⟩
theorem Gb {st:List ST}(hs:∀t∈st,StOk t)(h8:∀t∈st,t.L.length<=8)(h6:st.length<=6)(d:Nat){z u:Rat}{n m:Nat}(hz:hq z n)(hu:hq u m):HQ (pS st d z u).mtc (6*(n+m)+600):=by
 obtain⟨k1,k2,k3⟩:=ve hs h8 h6 hz hu st.length;have b6:∀t∈st,hq (dW z u t) 24:=fun t ht=>by
  have ok:=hs t ht;have hw:=ok.w;have ha:=v_ ok (aZ z u t);have zw:Zb t.w:=aJ J J;have za:Zb (dP t (aZ z u t)):=aJ J J;exact DS HQ.int HQ.int
 have k6:=jb b6 h6 st.length;rw[bb]at k1 k3 k6;have e:(pS st d z u).mtc=ap (ko z u) st/ap (bE z u) st+ap (dW z u) st/ap (bE z u) st:=O;rw[e];exact(@HQ.add _ _ _ _ (@HQ.div _ _ _ _ k3 k1) (@HQ.div _ _ _ _ k6 k1)).mono J
structure StbOk (s:SHP) (p me:Rat) (k:Nat):Prop where
 ld:∀w∈jh s,OkW w
 m:1<=sM (jh s)
 n:(jh s).length<=61
 hp:hq p k
 hme:hq me 400000
 hk:k<=1000000
 p0:0<=p
 l0:0<gK s p
set_option maxHeartbeats 4000000 in
theorem LX (s:SHP)(d:Nat)(a:AR)(H0:HYQ)(p:Rat){k:Nat}(ok:StbOk s p H0.mtc k)(h1:aO 170 [.agg (fB s),I (d:Nat)] (I 0))(h3:aO 193 [.agg (fB s),.agg (eA a),I (d:Nat)] (.tup [.agg (FG H0),.bool true])):aO 138 [.agg (fB s),.agg (eA a),.agg ([I (d:Nat)]++eR (ofQ p))] (.tup [.agg (DE (IJ s p H0.mtc)),I 0]):=by
 have h4:=xz s (jh s) O ok.ld ok.m ok.n;have w0:=db 0 ⟨Y,Y⟩;rw[show((0:Int):Rat)=0 from O]at w0;obtain⟨⟨t1,t2⟩,⟨t3,t4⟩,⟨t5,t6⟩,t7,t8⟩:=jc ok.ld;have hn:=ok.n;have hm:=ok.m;have hk:=ok.hk;have zM:Zb (sM (jh s)):=aJ J J;have zZ:Zb (sZ (jh s)):=aJ J J;have zF:Zb (1000*sF (jh s)):=aJ J J;have qM:HQ (mQ s) 4:=HQ.int;have qG:HQ (qZ s) 8:=@HQ.div _ _ 4 4 (HQ.int (z:=sZ (jh s))) (HQ.int (z:=sM (jh s)));have qF:HQ (FJ s) 4:=HQ.int;have qL:HQ (gK s p) (4+k+1):=@HQ.sub _ _ 4 k qM ⟨ok.hp⟩;have qme:HQ H0.mtc 400000:=⟨ok.hme⟩;have v1:=@HQ.mul _ _ _ _ qL qme;have v2:=@HQ.mul _ _ _ _ qM qG;have v3:=@HQ.sub _ _ _ _ v1 v2;have v4:HQ (AJ s p H0.mtc) _:=@HQ.sub _ _ _ _ v3 qF;have r1:IntKind.i64.wrap (1000*sF (jh s))=1000*sF (jh s):=wrap_i64 J J;have wM:=db (sM (jh s)) ⟨J,J⟩;rw[show((sM (jh s):Int):Rat)=mQ s from O]at wM;have wF:=db (1000*sF (jh s)) ⟨J,J⟩;rw[show((1000*sF (jh s):Int):Rat)=FJ s from O]at wF;have c1:=np (ofQ (mQ s)) (ofQ p) (hx:=Vq.ofQ (h:=qM)) (hy:=Vq.ofQ (h:=⟨ok.hp⟩)) Y J;rw[show mQ s-p=gK s p from O]at c1;have c2:=kw (ofQ p) (ofQ 0) (hx:=Vq.ofQ (h:=⟨ok.hp⟩)) (hy:=Vq.ofQ (h:=HQ.zero)) J Y;have c3:=kw (ofQ (gK s p)) (ofQ 0) (hx:=Vq.ofQ (h:=qL)) (hy:=Vq.ofQ (h:=HQ.zero)) J Y;have hp0:¬sgn (p-0)<0:=fun e=>by have:=(cX _).1 e;have:=ok.p0;grind
 have hl0:¬sgn (gK s p-0)<=0:=fun e=>by have:=(nU _).1 e;have:=ok.l0;grind
 have m1:=nZ (gK s p) H0.mtc (k+400005) (qL.mono J).ok (qme.mono J).ok J;have m2:=nZ (mQ s) (qZ s) 8 (qM.mono Y).ok qG.ok Y;have c4:=np (ofQ (gK s p*H0.mtc)) (ofQ (mQ s*qZ s)) (hx:=Vq.ofQ (h:=v1)) (hy:=Vq.ofQ (h:=v2)) J Y;have c5:=np (ofQ (gK s p*H0.mtc-mQ s*qZ s)) (ofQ (FJ s)) (hx:=Vq.ofQ (h:=v3)) (hy:=Vq.ofQ (h:=qF)) J Y;rw[show gK s p*H0.mtc-mQ s*qZ s-FJ s=AJ s p H0.mtc from O]at c5;have hMne:mQ s≠0:=by
  have:sM (jh s)≠0:=J;rw[mQ]
  exact_mod_cast this
 have hLne:gK s p≠0:=fun e=>by have:=ok.l0;rw[e]at this;exact absurd this Y
 have c6:=nj (ofQ (AJ s p H0.mtc)) (ofQ (mQ s)) (hx:=Vq.ofQ (h:=v4)) (hy:=Vq.ofQ (h:=qM)) J Y hMne;have c7:=nj (ofQ (AJ s p H0.mtc)) (ofQ (gK s p)) (hx:=Vq.ofQ (h:=v4)) (hy:=Vq.ofQ (h:=qL)) J J hLne;rw[yb,show(sZ (jh s):Rat)/(sM (jh s):Rat)=qZ s from O]at h4;rw[IJ];clear v1 v2 v3 v4 qM qG qF qL qme hMne hLne zM zZ zF ok;obtain⟨H1,H2,H3,H4,H5,H6,H7,H8,me⟩:=H0;rw[FG]at h3;simp only at *
 generalize ofQ (AJ s p me/mQ s)=G1,ofQ (AJ s p me/gK s p)=G2,ofQ (AJ s p me)=G3,ofQ (gK s p*me-mQ s*qZ s)=G4,ofQ (gK s p*me)=G5,ofQ (mQ s*qZ s)=G6,sgn (p-0)=g1,sgn (gK s p-0)=g2,ofQ (gK s p)=G7,ofQ (mQ s)=G8,ofQ (qZ s)=G9,ofQ (FJ s)=G10,ofQ p=G11,ofQ me=G12,ofQ ((sX (jh s):Rat)/(sM (jh s):Rat))=G13,ofQ 0=Z at *
 generalize sM (jh s)=im,sF (jh s)=jf,ofQ H1=J1,ofQ H2=J2,ofQ H3=J3,ofQ H4=J4,ofQ H5=J5,ofQ H6=J6,ofQ H7=J7,ofQ H8=J8 at *
 obtain⟨az,au⟩:=a;refine ax Proofs.Tryz.func138 ?_;refine aj h1 ?_;refine G h3 ?_;refine G h4 ?_;refine H ?_;refine be [(6,12),(7,12)] aK aK ?_;refine G wM ?_;refine G c1 ?_;refine cO 11 [41,42,43,44,45,46,47,48,49,50,51] ?_;refine G w0 ?_;refine aj c2 ?_;refine H ?_;rw[decide_eq_false hp0];refine G w0 ?_;refine aj c3 ?_;refine H ?_;rw[decide_eq_false hl0];refine H ?_;refine be [(18,13),(19,13)] aK aK ?_;refine H ?_;refine cf O O (dH O O O O O O O O O O aH O) ?_;refine G m1 ?_;refine G wM ?_;refine H ?_;refine cf O O (dH O O O O O O O O O O aH O) ?_;refine G m2 ?_;refine G c4 ?_;refine H ?_;rw[r1];refine sT O O O wF O O ?_;refine G c5 ?_;refine H ?_;refine cN 12 ?_;refine aT [(6,.ptr 6 1 0 0),(9,.ptr 9 1 0 0),(11,.ptr 11 1 0 0),(12,.ptr 12 1 0 0),(13,.ptr 13 1 0 0)] [(6,1,⟨48,16,[xN],2⟩),(9,1,⟨217,36,[[.bool J1.n.neg,.sl (J1.n.l.map eU),.bool J1.d.neg,.sl (J1.d.l.map eU),.bool J2.n.neg,.sl (J2.n.l.map eU),.bool J2.d.neg,.sl (J2.d.l.map eU),.bool J3.n.neg,.sl (J3.n.l.map eU),.bool J3.d.neg,.sl (J3.d.l.map eU),.bool J4.n.neg,.sl (J4.n.l.map eU),.bool J4.d.neg,.sl (J4.d.l.map eU),.bool J5.n.neg,.sl (J5.n.l.map eU),.bool J5.d.neg,.sl (J5.d.l.map eU),.bool J6.n.neg,.sl (J6.n.l.map eU),.bool J6.d.neg,.sl (J6.d.l.map eU),.bool J7.n.neg,.sl (J7.n.l.map eU),.bool J7.d.neg,.sl (J7.d.l.map eU),.bool J8.n.neg,.sl (J8.n.l.map eU),.bool J8.d.neg,.sl (J8.d.l.map eU),.bool G12.n.neg,.sl (G12.n.l.map eU),.bool G12.d.neg,.sl (G12.d.l.map eU)]],2⟩),(11,1,⟨61,10,[[I im,.bool G13.n.neg,.sl (G13.n.l.map eU),.bool G13.d.neg,.sl (G13.d.l.map eU),.bool G9.n.neg,.sl (G9.n.l.map eU),.bool G9.d.neg,.sl (G9.d.l.map eU),I jf]],2⟩),(12,1,⟨42,4,[[.bool G7.n.neg,.sl (G7.n.l.map eU),.bool G7.d.neg,.sl (G7.d.l.map eU)]],2⟩),(13,1,⟨42,4,[[.bool G3.n.neg,.sl (G3.n.l.map eU),.bool G3.d.neg,.sl (G3.d.l.map eU)]],2⟩)] ⟨O,O,O,O,O,O,O,O,O,O,trivial⟩ ?_;intro s12;refine mS 13 [71,72,73,74,75,76,77,78,79,80,81,82,83] aK ?_;refine G wM ?_;refine G c6 ?_;refine G c7 ?_;exact bW
def tQ (d:DKR)(p z t:Rat):STQ:=if bB ((vQ d p z t).drop d.bl.length)=0 then Ox else IJ d.s (bB ((vQ d p z t).take d.bl.length)) (pS d.s.st (gH d) (z+p) t).mtc
theorem Dt {d:DKR}{p z t:Rat}(h:Slim d p)(hs:Stood d p z t):hq (bB ((vQ d p z t).take d.bl.length)) 600000/\hq (bB ((vQ d p z t).drop d.bl.length)) 600000:=by
 have hl:=xK d p z t;have h5:=h.bl;have h6:=h.st;have h1:=tk (N:=50000) (l:=(vQ d p z t).take d.bl.length) fun q hq=>zk h hs q (d9 hq);have h2:=tk (N:=50000) (l:=(vQ d p z t).drop d.bl.length) fun q hq=>zk h hs q (my hq);rw[bw]at h1;rw[gV]at h2;exact⟨e_ h1 J,e_ h2 J⟩
theorem Jq {d:DKR}{p z t:Rat}(h:Slim d p)(hs:Stood d p z t):0<=bB ((vQ d p z t).take d.bl.length)/\0<=bB ((vQ d p z t).drop d.bl.length) :=
 ⟨GI fun q hq=>Pj h hs q (d9 hq),GI fun q hq=>Pj h hs q (my hq)⟩
theorem wH {d:DKR}{p z t:Rat}(hs:Stood d p z t):bB ((vQ d p z t).take d.bl.length)+bB ((vQ d p z t).drop d.bl.length)=(sM (d.s.light::d.s.it):Rat):=by
 rw[Fa,My hs.bal];rfl
theorem NX {d:DKR}{p z t:Rat}(hl:d.Len)(h:Slim d p)(hs:Stood d p z t)(hb:bB ((vQ d p z t).drop d.bl.length)≠0):aO 138 [.agg (fB d.s),.agg (eR (ofQ (z+p))++eR (ofQ t)),.agg ([I d.d]++eR (ofQ (bB ((vQ d p z t).take d.bl.length))))] (.tup [.agg (DE (tQ d p z t)),I 0]):=by
 obtain⟨hk,hd,hf⟩:=h.bd;have ok:=mV (kx hf);have hdn:=oy hd;have hv0:ap (bE (z+p) t) d.s.st≠0:=fun e=>hb (by
  rw[Jr hk.st];show ap (bE (z+p) t) d.s.st*_=0
  rw[e];grind)
 have hz:=hs.hz;have ht:=hs.ht;have hp:HQ p 4:=⟨h.p⟩;have hzp:HQ (z+p) 24005:=@HQ.add _ _ 24000 4 hz hp;have va:Va ⟨ofQ (z+p),ofQ t⟩ (z+p) t 24005 20000:=⟨Vq.ofQ (h:=hzp),Vq.ofQ (h:=ht)⟩;have h3:=Hy d.s hk.st h.st h.L ⟨ofQ (z+p),ofQ t⟩ (ha:=va) Y (gH d) J J hv0;have h1:=tz d.s hl.s d.d;rw[hf,<-hdn]at h1;have me:=Gb hk.st h.L h.st (gH d) hzp.ok ht.ok;have hms:=wH hs;have hnn:=Jq h hs;have sok:StbOk d.s (bB ((vQ d p z t).take d.bl.length)) (pS d.s.st (gH d) (z+p) t).mtc 600000 :=
  ⟨ok.ld,ok.m,by have:=ok.n;show(d.s.light::d.s.it).length<=61;simp;omega,(Dt h hs).1,(me.mono Y).ok,Y,hnn.1,by
   rw[gK,mQ,jh]
   grind⟩
 have:=LX d.s (gH d) ⟨ofQ (z+p),ofQ t⟩ _ _ sok h1 h3;rw[hdn]at this;rw[tQ,if_neg hb];exact this
def I7 (d:DKR)(p z t:Rat):DQ:=PG d p ⟨ofQ z,ofQ t⟩ (vQ d p z t) (tQ d p z t)
theorem zm {d:DKR}{p:Rat}(hl:d.Len)(h:Slim d p):aO 95 [.agg (fB d.s),.sl ((dU d p).map eS)] (.tup [.agg (eB (if dG (dB d p)=0 then dB d p else BE)),I (dG (dB d p))]):=by
 obtain⟨hk,hd,hf⟩:=h.bd;have h12:(dU d p).length<=1000:=by rw[og];have:=h.st;have:=h.bl;omega
 have hM:∀x∈dU d p,x.k.M.length<=1000:=fun x hx=>by
  rcases lO hx with⟨b,-,rfl⟩|⟨t,ht,rfl⟩
  .show 1<=1000;decide
  .show(qD (gH d) t).length<=1000;rw[EV];have:=(hk.st t ht).h;have:=h.L t ht;omega
 have:=Dx d.s hl.s (kx hf) (dU d p) (zG h) (by rw[KQ];exact zG h) h12 hM;rw[KQ]at this;exact this
theorem NU {b:BR}(h:dG b≠0):eQ b=⟨zA,[],zA,dG b⟩:=by rw[eQ,if_neg h]
theorem Ef {d:DKR}{lv:RR}{p z t:Rat}{n:Nat}[hlv:Vq lv p n](hn:n<=1000000)(hl:d.Len)(h:Slim d p)(hs:Stood d p z t):aO 74 [.agg (cn d),.agg (eR lv)] (.tup [.agg (fk (I7 d p z t)),I 0]):=by
 obtain⟨hk,hd,hf⟩:=h.bd;have hsup:=lM d hk hd hf hl.s lv (hv:=hlv) J;have h95:=zm hl h;rw[if_pos hs.e,hs.e]at h95;have h78:=mW (dB d p) (jD h).1 fun _=>(jD h).2;rw[hs.s,SQ.pv,Oz]at h78;have hll:=xK d p z t;have h5:=h.bl;have h6:=h.st;have hz:=hs.hz;refine Dh d lv (hlv:=hlv) hn hsup (dB d p) h95 (ofQ z) (ofQ t) RR.zero RR.zero (vQ d p z t) (fun q hq=>e_ (zk h hs q hq) Y) J J h78 (tQ d p z t) (hz:=Vq.ofQ (h:=hz)) Y (NX hl h hs) fun e=>by rw[tQ,if_pos e]
theorem Ee {d:DKR}{lv:RR}{p:Rat}{n:Nat}[hlv:Vq lv p n](hn:n<=1000000)(hl:d.Len)(h:Slim d p)(he:(eQ (dB d p)).e≠0):aO 74 [.agg (cn d),.agg (eR lv)] (.tup [.agg (fk dZ),I (eQ (dB d p)).e]):=by
 obtain⟨hk,hd,hf⟩:=h.bd;have hsup:=lM d hk hd hf hl.s lv (hv:=hlv) J;have h95:=zm hl h;by_cases hb:dG (dB d p)=0
 .rw[if_pos hb,hb]at h95;exact E5 d lv hsup (dB d p) h95 (eQ (dB d p)) he (mW (dB d p) (jD h).1 fun _=>(jD h).2)
 .rw[NU hb];exact E6 d lv hsup _ _ hb h95
theorem Py {d:DKR}{lv:RR}{p z t:Rat}{n:Nat}[hlv:Vq lv p n](hn:n<=1000000)(hl:d.Len)(h:Slim d p)(hs:Stood d p z t):aO 21 [.agg (cn d),.agg (eR lv)] (.tup [.agg (fk (I7 d p z t)),I 0]):=Jh d h.ok h.e lv _ 0 (Ef (hlv:=hlv) hn hl h hs)
theorem Px {d:DKR}{lv:RR}{p:Rat}{n:Nat}[hlv:Vq lv p n](hn:n<=1000000)(hl:d.Len)(h:Slim d p)(he:(eQ (dB d p)).e≠0):aO 21 [.agg (cn d),.agg (eR lv)] (.tup [.agg (fk dZ),I (eQ (dB d p)).e]):=Jh d h.ok h.e lv _ _ (Ee (hlv:=hlv) hn hl h he)
theorem PJ {d:DKR}(h:gF d=0):∀c∈d.bl,BkIn c:=by
 intro c hc;rw[gF]at h;split at h
 .split at h
  .split at h
   .rename_i h3;rw[tu]at h3;split at h3
    .omega
    .obtain⟨j,hj⟩:=iA.1 hc;exact zy (kr h3 j c hj)
   .contradiction
  .contradiction
 .contradiction
theorem MV {α:Type}[h:DecidableEq α](a:α):decide (a=a)=true:=decide_eq_true O
structure SmlS (s:SHP):Prop where
 st:s.st.length<=1000
 it:s.it.length<=1000
 L:∀t∈s.st,t.L.length<=1000/\t.H0.length<=1000
structure SmlD (d:DKR):Prop where
 s:SmlS d.s
 bl:d.bl.length<=1000
 zn:d.zn.length<=1000
 b:∀b∈d.bl,b.st.sz 12
structure STQ.Le (x:STQ):Prop where
 a:x.km.le 1000000000
 b:x.kg.le 1000000000
 c:x.gm.le 1000000000
 d:x.ot.le 1000000000
structure DQ.Le (x:DQ):Prop where
 lv:x.lv.le 1000000000
 z:x.a.z.le 1000000000
 t:x.a.t.le 1000000000
 n:x.F.length<=1000000
 F:∀r∈x.F,r.le 1000000000
 up:x.up.le 1000000000
 bu:x.bu.le 1000000000
 s:x.s.Le
theorem ET (x:STQ)(h:x.Le):aO 76 [.agg (DE x),.agg (DE x)] (.bool true):=by
 have e1:=fx x.km h.a;have e2:=fx x.kg h.b;have e3:=fx x.gm h.c;have e4:=fx x.ot h.d;clear h;obtain⟨a,b,c,d⟩:=x;simp only at *
 refine ax Proofs.Tryz.func76 ?_;refine aj e1 ?_;refine aj e2 ?_;refine aj e3 ?_;refine aj e4 ?_;exact fC
theorem kN (x:DQ)(h:x.Le):aO 22 [.agg (fk x),.agg (fk x)] (.bool true):=by
 have e1:=fx x.lv h.lv;have e2:=Ix x.a h.z h.t;have e3:=xf x.F h.n h.F;have e4:=fx x.up h.up;have e5:=fx x.bu h.bu;have e6:=ET x.s h.s;clear h;obtain⟨lv,⟨az,at'⟩,F,up,bu,⟨s1,s2,s3,s4⟩,held,ph⟩:=x;simp only at *
 refine ax Proofs.Tryz.func22 ?_;refine aj e1 ?_;refine aj e2 ?_;refine aj e3 ?_;refine aj e4 ?_;refine aj e5 ?_;refine aj e6 ?_;refine H ?_;rw[beq_self_eq_true];refine H ?_;rw[MV];exact fC
def tY (p q:Rat):Rat:=if p<=q then p else q
theorem EH (x y:RR){p q:Rat}{n m:Nat}[hx:Vq x p n][hy:Vq y q m](hn:n<=1000000)(hm:m<=1000000):aO 270 [.agg (eR x),.agg (eR y)] (.agg (eR (ofQ (tY p q)))):=by
 have c:=eX x y J J;have s:=nU (p-q);have e:p-q<=0↔p<=q:=by constructor<;>intro h<;>grind
 rw[e]at s;have z1:=hx.sz;have z2:=hy.sz;have n1:=ef x J J;have n2:=ef y J J;rw[hx.val]at n1;rw[hy.val]at n2;rw[tY];generalize sgn (p-q)=g at *
 generalize hP:ofQ p=P at *
 generalize hQ:ofQ q=Q at *
 refine ax Proofs.Tryz.func270 ?_;refine aj c ?_;refine D ?_ ?_<;>intro h
 .have h1:=s.1 (aB h);clear h;rw[if_pos h1,hP];refine G n1 ?_;exact bW
 .have h1:¬p<=q:=fun e=>(aE h) (s.2 e);clear h;rw[if_neg h1,hQ];refine G n2 ?_;exact bW
theorem Nf {t:ST}(ok:StOk t){y:Rat}{k:Nat}(hk:k+1<t.L.length):(if tY y (dM t (k+1))-dM t k<0 then 0 else tY y (dM t (k+1))-dM t k)=ek t y k:=by
 have h:=uR ok hk;rw[ek,tY];generalize dM t k=a,dM t (k+1)=b at *
 grind
theorem F_ {t:ST}(ok:StOk t)(k:Nat)(hk:k<t.L.length):∃n,t.L[k]? = some n/\dM t k=((n:Int):Rat)/\i64 n:=by
 have h0:t.L[k]? = some (t.L.getD k 0):=bF (d:=0) hk;have:=ok.L _ (bm h0);exact⟨_,h0,O,⟨J,J⟩⟩
theorem y4 (t:ST)(ok:StOk t)(k:Nat)(hk:k<t.H0.length){y:Rat}{N:Nat}(hy:hq y N)(hN:N<=900000):aO 237 [.agg (eT t),I (k:Nat),.agg (eR (ofQ y))] (.agg (eR (ofQ (ek t y k)))):=by
 have hLH:=ok.h;have hLn:=ok.n;obtain⟨lo,hlo,hloq,hloi⟩:=F_ ok k J;obtain⟨hi,hhi,hhiq,hhii⟩:=F_ ok (k+1) J;have q1:IntKind.i64.wrap (((k:Nat):Int)+1)=((k+1:Nat):Int):=by rw[wrap_i64 J J];omega
 have a1:=b_ lo hloi;rw[<-hloq]at a1;have a2:=b_ hi hhii;rw[<-hhiq]at a2;have c1:=EH (ofQ y) (ofQ (dM t (k+1))) (hx:=Vq.ofQ (h:=⟨hy⟩)) (hy:=Vq.ofQ (h:=nM ok (k+1))) J Y;have m1:HQ (tY y (dM t (k+1))) (N+5):=by
  rw[tY];split
  .exact HQ.mono (h:=⟨hy⟩) J
  .exact(nM ok (k+1)).mono J
 have m2:=@HQ.sub _ _ _ _ m1 (nM ok k);have c2:=iP (ofQ (tY y (dM t (k+1)))) (ofQ (dM t k)) (hx:=Vq.ofQ (h:=m1)) (hy:=Vq.ofQ (h:=nM ok k)) J Y;have c3:=gu (ofQ (tY y (dM t (k+1))-dM t k)) (hx:=Vq.ofQ (h:=m2)) J;have s:=cX (tY y (dM t (k+1))-dM t k);have e:=Nf ok (y:=y) (k:=k) J;have w0:=lN;rw[<-e];clear e m1 m2;generalize tY y (dM t (k+1))-dM t k=D0 at *
 generalize sgn D0=g,ofQ (tY y (dM t (k+1)))=B,ofQ (dM t (k+1))=A2,ofQ (dM t k)=A1,ofQ y=Y0 at *
 generalize hZ:ofQ 0=Z at *
 generalize hE:ofQ D0=E at *
 refine ax Proofs.Tryz.func237 ?_;refine H ?_;refine be [(9,7),(10,7)] aK aK ?_;refine H ?_;rw[q1];refine cf O O (i9 (n:=((((k+1:Nat):Int)):Int)) O O O O O J hhi O) ?_;refine G a2 ?_;refine G c1 ?_;refine H ?_;refine be [(8,8),(9,8)] aK aK ?_;refine aQ hlo ?_;refine G a1 ?_;refine G c2 ?_;refine aj c3 ?_;refine D ?_ ?_<;>intro h
 .have h1:=s.1 (aB h);clear h;rw[if_pos h1,hZ];refine G w0 ?_;exact bW
 .have h1:¬D0<0:=fun e=>(aE h) (s.2 e);clear h;rw[if_neg h1,hE];exact bW
theorem yS (t:ST)(ok:StOk t)(h8:t.L.length<=8){y:Rat}{N:Nat}(hy:hq y N)(hN:N<=900000):aO 185 [.agg (eT t),.agg (eR (ofQ y))] (.agg (eR (ofQ (tt t y)))):=by
 have hLH:=ok.h;have hmh:(t.H0.map eN).length=t.H0.length:=ao;have w0:=lN;have hpt:=fun k hk=>y4 t ok k hk hy hN;have hfi:=wc ok;have hfh:=B8 ok;have hlen:=fun k=>wy ok hy k;have har:=fun k=>Fm ok hy k;have hhi:∀k,k<t.H0.length->t.H0[k]? = some (t.H0.getD k 0):=fun k hk=>bF (d:=0) hk;rw[tt];refine ax Proofs.Tryz.func185 ?_;refine G w0 ?_;refine H ?_;refine aT [(2,.ptr 2 1 0 0),(3,.ptr 3 1 0 0),(4,.ptr 4 1 0 0),(5,.ptr 5 1 0 0),(6,I ((0:Nat):Int))] [(2,1,⟨130,4,[eT t],2⟩),(3,1,⟨42,4,[eR (ofQ y)],2⟩),(4,1,⟨42,4,[zN],2⟩),(5,1,⟨42,4,[eR (ofQ 0)],2⟩)] ⟨O,O,O,O,O,O,O,O,O,trivial⟩ ?_;intro s0;refine ah (fun k:Nat=>k<=t.H0.length) (fun k=>[(2,.ptr 2 1 0 0),(3,.ptr 3 1 0 0),(4,.ptr 4 1 0 0),(5,.ptr 5 1 0 0),(6,I (k:Nat))]) (fun k=>[(2,1,⟨130,4,[eT t],2⟩),(3,1,⟨42,4,[eR (ofQ y)],2⟩),(4,1,⟨42,4,[zN],2⟩),(5,1,⟨42,4,[eR (ofQ (qJ t y k))],2⟩)]) (fun k=>t.H0.length-k) 0 (aP _) ⟨O,O,O,O,O,O,O,O,O,trivial⟩ ?_;intro k s hk;refine H ?_;rw[hmh];refine aS O ?_ ?_<;>intro h
 .have hlt:k<t.H0.length:=by have:=aB h;omega
  clear h;have hx:=hhi k hlt;have hfi:=hfi k;have q1:IntKind.i64.wrap (((k:Nat):Int)+1)=((k+1:Nat):Int):=by rw[wrap_i64 J J];omega
  have q2:IntKind.i64.wrap (2*t.H0.getD k 0)=2*t.H0.getD k 0:=wrap_i64 J J;have a3:=b_ (2*t.H0.getD k 0) ⟨J,J⟩;rw[show((2*t.H0.getD k 0:Int):Rat)=o8 t k from O]at a3;have p1:=hpt k hlt;have hark:k*(N+14)<=7*(N+14):=cu _ J;have m1:=cy (ofQ (o8 t k)) (ofQ (ek t y k)) (hx:=Vq.ofQ (h:=hfh k)) (hy:=Vq.ofQ (h:=hlen k)) Y J;have s1:=cJ (ofQ (qJ t y k)) (ofQ (o8 t k*ek t y k)) (hx:=Vq.ofQ (h:=har k)) (hy:=Vq.ofQ (h:=@HQ.mul _ _ _ _ (hfh k) (hlen k))) J J;rw[show qJ t y k+o8 t k*ek t y k=qJ t y (k+1) from O]at s1;generalize hAR:ofQ (qJ t y (k+1))=AR at *
  generalize ofQ (qJ t y k)=AR0,ofQ (o8 t k*ek t y k)=HL,ofQ (o8 t k)=HF,ofQ (ek t y k)=LN,t.H0.getD k 0=h0 at *
  refine cO 14 [15,16,17,18,19,20,21,22,23,24,25,26,27,28] ?_;refine aQ hx ?_;refine H ?_;rw[q2];refine sT O O O a3 O O ?_;refine G p1 ?_;refine G m1 ?_;refine G s1 ?_;refine H ?_;exact⟨k+1,hlt,J,O,O,O,O,congrArg I q1,O,O,O,by rw[hAR];rfl,trivial⟩
 .have hge:k=t.H0.length:=by have:=aE h;omega
  clear h;subst hge;generalize ofQ (qJ t y t.H0.length)=P at *
  exact bW
theorem Fn (d b:Nat)(h1:1<=d)(h2:d<=1000000000)(h3:1<=b)(h4:b<=1000000000):aO 33 [I (d:Nat),I (b:Nat)] (.agg (eR (ofQ ((d:Rat)/(b:Rat))))):=by
 have hq:=RN d b J;have hgp:0<Nat.gcd d b:=Nat.gcd_pos_of_pos_left _ J;have hb1:=ju d (Nat.gcd d b);have hb2:=ju b (Nat.gcd d b);rw[hq];generalize hA:d/Nat.gcd d b=A at *
 generalize hB:b/Nat.gcd d b=B at *
 have k1:=sa (A:Int) ⟨J,J⟩;have k2:=sa (B:Int) ⟨J,J⟩;generalize hX:du (A:Int)=X at *
 generalize hY:du (B:Int)=Y0 at *
 generalize hG:Nat.gcd d b=G0 at *
 refine ax Proofs.Tryz.func33 ?_;refine H ?_;refine ah (fun q:Nat × Nat=>q.1<=1000000000/\q.2<=1000000000/\Nat.gcd q.1 q.2=G0) (fun q=>[(0,I (d:Nat)),(1,I (b:Nat)),(4,.ptr 4 1 0 0),(5,I (q.1:Nat)),(6,I (q.2:Nat))]) (fun _=>[(4,1,⟨42,4,[zN],2⟩)]) (fun q=>q.2) (d,b) ⟨h2,h4,hG⟩ ⟨O,O,O,O,O,O,trivial⟩ ?_;rintro⟨x,y⟩ s ⟨hx,hy,hg⟩;simp only at hx hy hg;dsimp only;refine D ?_ ?_<;>intro h
 .have hy0:0<y:=by have:=aB h;omega
  clear h;have hm:=fL x hy0;refine H ?_;refine bj [] [] aK ?_;refine H ?_;refine cf O O (QOp.v O (show ¬((y:Nat):Int)=0 by omega)) ?_;rw[n6];refine H ?_;exact⟨(y,x%y),⟨hy,by simp only;omega,by simp only;rw[iW,<-rD,iW];exact hg⟩,hm,O,O,O,O,O,O,trivial⟩
 .have hy0:y=0:=by have:=aE h;omega
  subst hy0;clear h;rw[rp]at hg;subst hg;have q1:IntKind.i64.wrap (Int.tdiv (d:Int) (x:Int))=(A:Int):=by rw[GM,hA,wrap_i64 J J]
  have q2:IntKind.i64.wrap (Int.tdiv (b:Int) (x:Int))=(B:Int):=by rw[GM,hB,wrap_i64 J J]
  refine cO 9 [25,26,27,28,29,30,31,32,33] ?_;refine H ?_;refine cf O O (QOp.v O (show ¬((x:Nat):Int)=0 by omega)) ?_;rw[q1];refine G k1 ?_;refine H ?_;refine cf O O (QOp.v O (show ¬((x:Nat):Int)=0 by omega)) ?_;rw[q2];refine G k2 ?_;exact bW
theorem SC:aO 33 [I 1,I 2] (.agg (eR (ofQ (1/2)))):=by
 have:=Fn 1 2 Y Y Y Y;rw[show((1:Nat):Rat)/((2:Nat):Rat)=1/2 from O]at this;exact this
theorem SD:aO 33 [I 2,I 3] (.agg (eR (ofQ (2/3)))):=by
 have:=Fn 2 3 Y Y Y Y;rw[show((2:Nat):Rat)/((3:Nat):Rat)=2/3 from O]at this;exact this
theorem RC (t:ST)(y:Rat)(k:Nat):o8 t k*ek t y k*(dM t k+ek t y k*(1/2))=Gi t y k:=by
 rw[Gi];grind
theorem Ir (t:ST)(ok:StOk t)(h8:t.L.length<=8){y:Rat}{N:Nat}(hy:hq y N)(hN:N<=400000):aO 217 [.agg (eT t),.agg (eR (ofQ y))] (.agg (eR (ofQ (Gg t y)))):=by
 have hLH:=ok.h;have hmh:(t.H0.map eN).length=t.H0.length:=ao;have w0:=lN;have wh:=SC;have hpt:=fun k hk=>y4 t ok k hk hy J;have hfi:=wc ok;have hfh:=B8 ok;have hlv:=nM ok;have hlen:=fun k=>wy ok hy k;have hmo:=fun k=>Gj ok hy k;have hmt:=fun k=>En ok hy k;have hlvi:=F_ ok;have z1:Zb 1:=aJ Y Y;have z2:Zb 2:=aJ Y Y;have h12:HQ (1/2:Rat) 8:=by rw[show(1/2:Rat)=((1:Int):Rat)/((2:Int):Rat) from O];exact @HQ.div _ _ 4 4 HQ.int HQ.int
 have hhi:∀k,k<t.H0.length->t.H0[k]? = some (t.H0.getD k 0):=fun k hk=>bF (d:=0) hk;rw[Gg];refine ax Proofs.Tryz.func217 ?_;refine G w0 ?_;refine H ?_;refine aT [(2,.ptr 2 1 0 0),(3,.ptr 3 1 0 0),(4,.ptr 4 1 0 0),(5,.ptr 5 1 0 0),(6,I ((0:Nat):Int))] [(2,1,⟨130,4,[eT t],2⟩),(3,1,⟨42,4,[eR (ofQ y)],2⟩),(4,1,⟨42,4,[zN],2⟩),(5,1,⟨42,4,[eR (ofQ 0)],2⟩)] ⟨O,O,O,O,O,O,O,O,O,trivial⟩ ?_;intro s0;refine ah (fun k:Nat=>k<=t.H0.length) (fun k=>[(2,.ptr 2 1 0 0),(3,.ptr 3 1 0 0),(4,.ptr 4 1 0 0),(5,.ptr 5 1 0 0),(6,I (k:Nat))]) (fun k=>[(2,1,⟨130,4,[eT t],2⟩),(3,1,⟨42,4,[eR (ofQ y)],2⟩),(4,1,⟨42,4,[zN],2⟩),(5,1,⟨42,4,[eR (ofQ (tD t y k))],2⟩)]) (fun k=>t.H0.length-k) 0 (aP _) ⟨O,O,O,O,O,O,O,O,O,trivial⟩ ?_;intro k s hk;refine H ?_;rw[hmh];refine aS O ?_ ?_<;>intro h
 .have hlt:k<t.H0.length:=by have:=aB h;omega
  clear h;have hx:=hhi k hlt;have hfi:=hfi k;have hlk:=hlen k;obtain⟨lo,hlo,hloq,hloi⟩:=hlvi k J;have q1:IntKind.i64.wrap (((k:Nat):Int)+1)=((k+1:Nat):Int):=by rw[wrap_i64 J J];omega
  have q2:IntKind.i64.wrap (2*t.H0.getD k 0)=2*t.H0.getD k 0:=wrap_i64 J J;have a1:=b_ lo hloi;rw[<-hloq]at a1;have a3:=b_ (2*t.H0.getD k 0) ⟨J,J⟩;rw[show((2*t.H0.getD k 0:Int):Rat)=o8 t k from O]at a3;have p1:=hpt k hlt;have hmok:k*(2*N+41)<=7*(2*N+41):=cu _ J;have v1:=@HQ.mul _ _ _ _ hlk h12;have v2:=@HQ.add _ _ _ _ (hlv k) v1;have v3:=@HQ.mul _ _ _ _ (hfh k) hlk;have m0:=cy (ofQ (ek t y k)) (ofQ (1/2)) (hx:=Vq.ofQ (h:=hlk)) (hy:=Vq.ofQ (h:=h12)) J Y;have s0:=cJ (ofQ (dM t k)) (ofQ (ek t y k*(1/2))) (hx:=Vq.ofQ (h:=hlv k)) (hy:=Vq.ofQ (h:=v1)) Y J;have m1:=cy (ofQ (o8 t k)) (ofQ (ek t y k)) (hx:=Vq.ofQ (h:=hfh k)) (hy:=Vq.ofQ (h:=hlk)) Y J;have m2:=cy (ofQ (o8 t k*ek t y k)) (ofQ (dM t k+ek t y k*(1/2))) (hx:=Vq.ofQ (h:=v3)) (hy:=Vq.ofQ (h:=v2)) J J;rw[RC]at m2;have s1:=cJ (ofQ (tD t y k)) (ofQ (Gi t y k)) (hx:=Vq.ofQ (h:=hmo k)) (hy:=Vq.ofQ (h:=hmt k)) J J;rw[show tD t y k+Gi t y k=tD t y (k+1) from O]at s1;clear v1 v2 v3 hlk;generalize hMO:ofQ (tD t y (k+1))=MO at *
  generalize ofQ (tD t y k)=MO0,ofQ (Gi t y k)=MT,ofQ (o8 t k*ek t y k)=HL,ofQ (dM t k+ek t y k*(1/2))=LT,ofQ (ek t y k*(1/2))=L2,ofQ (o8 t k)=HF,ofQ (ek t y k)=LN,ofQ (dM t k)=LQ,ofQ (1/2)=OH,t.H0.getD k 0=h0 at *
  refine G p1 ?_;refine cN 6 ?_;refine am (fp 8) ?_;refine be [(10,8),(11,8)] aK aK ?_;refine aQ hlo ?_;refine G a1 ?_;refine G wh ?_;refine G m0 ?_;refine G s0 ?_;refine cO 13 [31,32,33,34,35,36,37,38,39,40,41,42,43] ?_;refine aQ hx ?_;refine H ?_;rw[q2];refine sT O O O a3 O O ?_;refine G m1 ?_;refine G m2 ?_;refine G s1 ?_;refine H ?_;exact⟨k+1,hlt,J,O,O,O,O,congrArg I q1,O,O,O,by rw[hMO];rfl,trivial⟩
 .have hge:k=t.H0.length:=by have:=aE h;omega
  clear h;subst hge;generalize ofQ (tD t y t.H0.length)=P at *
  exact bW
theorem sY (t:ST)(ok:StOk t){y:Rat}{N:Nat}(hy:hq y N)(hN:N<=900000):aO 218 [.agg (eT t),.agg (eR (ofQ y))] (I (dP t y)):=by
 have hLH:=ok.h;have hLn:=ok.n;have hmh:(t.H0.map eN).length=t.H0.length:=ao;have hlv:=nM ok;have hlvi:=F_ ok;have hhi:∀k,k<t.H0.length->t.H0[k]? = some (t.H0.getD k 0):=fun k hk=>bF (d:=0) hk;generalize hR:dP t y=R;rw[dP]at hR;refine ax Proofs.Tryz.func218 ?_;refine H ?_;refine ah (fun k:Nat=>k<=t.H0.length/\Mr t y (t.H0.length-k) k=R) (fun k=>[(2,.ptr 2 1 0 0),(3,.ptr 3 1 0 0),(5,I (k:Nat))]) (fun k=>[(2,1,⟨130,4,[eT t],2⟩),(3,1,⟨42,4,[eR (ofQ y)],2⟩)]) (fun k=>t.H0.length-k) 0 ⟨aP _,hR⟩ ⟨O,O,O,O,O,trivial⟩ ?_;rintro k s ⟨hk,hall⟩;refine H ?_;rw[hmh];refine aS O ?_ ?_<;>intro h
 .have hlt:k<t.H0.length:=by have:=aB h;omega
  clear h;have hx:=hhi k hlt;obtain⟨lo,hlo,hloq,hloi⟩:=hlvi k J;obtain⟨hi,hhii,hhiq,hhi64⟩:=hlvi (k+1) J;have q1:IntKind.i64.wrap (((k:Nat):Int)+1)=((k+1:Nat):Int):=by rw[wrap_i64 J J];omega
  have a1:=b_ lo hloi;have a2:=b_ hi hhi64;rw[<-hloq]at a1;rw[<-hhiq]at a2;have c1:=eX (ofQ (dM t k)) (ofQ y) (hx:=Vq.ofQ (h:=hlv k)) (hy:=Vq.ofQ (h:=⟨hy⟩)) Y J;have c2:=eX (ofQ y) (ofQ (dM t (k+1))) (hx:=Vq.ofQ (h:=⟨hy⟩)) (hy:=Vq.ofQ (h:=hlv (k+1))) J Y;have s1:=nU (dM t k-y);have s2:=cX (y-dM t (k+1));have e1:dM t k-y<=0↔dM t k<=y:=by constructor<;>intro h<;>grind
  have e2:y-dM t (k+1)<0↔y<dM t (k+1):=by constructor<;>intro h<;>grind
  rw[e1]at s1;rw[e2]at s2;rw[show t.H0.length-k=(t.H0.length-(k+1))+1 by omega,v8]at hall;generalize sgn (dM t k-y)=g1,sgn (y-dM t (k+1))=g2,ofQ (dM t k)=A1,ofQ (dM t (k+1))=A2,t.H0.getD k 0=h0 at *
  refine cO 21 [13,14,15,16,17,18,19,20,21,22,23,24,25,26,27,28,29,30,31,32,33] ?_;refine aQ hlo ?_;refine G a1 ?_;refine aj c1 ?_;refine H ?_;by_cases d1:g1<=0
  rotate_left
  .rw[if_neg (fun e=>d1 (s1.2 e.1))]at hall;rw[decide_eq_false d1];refine H ?_;exact⟨k+1,⟨hlt,hall⟩,J,O,O,congrArg I q1,O,O,trivial⟩
  rw[decide_eq_true d1];refine H ?_;rw[q1];refine cf O O (i9 (n:=((((k+1:Nat):Int)):Int)) O O O O O J hhii O) ?_;refine G a2 ?_;refine aj c2 ?_;refine H ?_;by_cases d2:g2<0
  .rw[if_pos ⟨s1.1 d1,s2.1 d2⟩]at hall;rw[decide_eq_true d2];subst hall;refine aQ hx ?_;exact co
  .rw[if_neg (fun e=>d2 (s2.2 e.2))]at hall;rw[decide_eq_false d2];refine H ?_;exact⟨k+1,⟨hlt,hall⟩,J,O,O,congrArg I q1,O,O,trivial⟩
 .have hge:k=t.H0.length:=by have:=aE h;omega
  clear h;subst hge;rw[iE,Mr]at hall;subst hall;exact co
theorem Qg {P:Program}{L:df}{ops:Array Oper}{Z:List Nat}{lc:Nat->Option Nat}{i:Nat}{K:St->Prop}{l:List Oper}{s:St}{r:Nat}{v w:PV}(h:v=w)(k:P5 P L ops Z lc K i l (s.putR r w)):P5 P L ops Z lc K i l (s.putR r v):=by subst h;exact k
theorem l8 (a:AR)(x:Int)(hx:i64 x){z t:Rat}{n m:Nat}[ha:Va a z t n m](hn:n<=1000000)(hm:m<=1000000):aO 96 [.agg (eA a),I x] (.agg (eR (ofQ (z+t*(x:Rat))))):=by
 have hxz:Zb x:=aJ hx.1 hx.2;have hw:=b_ x hx;have h1:=cy a.t (ofQ (x:Rat)) (hx:=ha.t) J Y;have v1:Vq (ofQ (t*(x:Rat))) (t*(x:Rat)) (m+1+4):=Vq.ofQ (h:=@HQ.mul _ _ (m+1) 4 ha.t.hq HQ.int);have h2:=cJ a.z (ofQ (t*(x:Rat))) (hx:=ha.z) (hy:=v1) J J;obtain⟨az,at'⟩:=a;simp only at *
 generalize ofQ (z+t*(x:Rat))=X2,ofQ (t*(x:Rat))=X1,ofQ (x:Rat)=X0 at *
 refine ax Proofs.Tryz.func96 ?_;refine cO 8 [5,6,7,8,9,10,11,12] ?_;refine G hw ?_;refine G h1 ?_;refine G h2 ?_;exact bW
theorem C9 (s:SHP)(hst:∀t∈s.st,StOk t)(h6:s.st.length<=6)(h8:∀t∈s.st,t.L.length<=8)(a:AR){z u:Rat}{n m:Nat}[ha:Va a z u n m](hnm:n+m<=49000):aO 216 [.agg (fB s),.agg (eA a)] (.agg (eR (ofQ (ap (bE z u) s.st)))):=by
 have w0:=lN;have hms:(s.st.map eT).length=s.st.length:=ao;have hyq:∀t∈s.st,hq (aZ z u t) (n+m+12):=fun t ht=>by
  have hx:=(hst t ht).x;have zx:Zb t.x:=aJ J J;exact(HQ.mono (h:=@HQ.add _ _ (n+1) (m+1+4) ha.z.hq (@HQ.mul _ _ (m+1) 4 ha.t.hq HQ.int)) J).ok
 have hsum:=fun i=>ve hst h8 h6 ha.z.hq.ok ha.t.hq.ok i;generalize hNN:n+m+12=N at *
 have hN:N<=49012:=J;have hsz:=fun t ht=>E_ (hst t ht) (h8 t ht) (hyq t ht);have s1:∀i,HQ (ap (bE z u) (s.st.take i)) (N+16):=fun i=>(hsum i).1.mono J;clear hsum;obtain⟨nm,len,st,light,it⟩:=s;obtain⟨az,au⟩:=a;simp only at *
 refine ax Proofs.Tryz.func216 ?_;refine G w0 ?_;refine H ?_;refine aT [(2,.ptr 2 1 0 0),(3,.ptr 3 1 0 0),(4,.ptr 4 1 0 0),(5,.ptr 5 1 0 0),(6,I ((0:Nat):Int))] [(2,1,⟨27,9,[fB ⟨nm,len,st,light,it⟩],2⟩),(3,1,⟨45,8,[eA ⟨az,au⟩],2⟩),(4,1,⟨42,4,[zN],2⟩),(5,1,⟨42,4,[eR (ofQ 0)],2⟩)] ⟨O,O,O,O,O,O,O,O,O,trivial⟩ ?_;intro s0;refine ah (fun i:Nat=>i<=st.length) (fun i=>[(2,.ptr 2 1 0 0),(3,.ptr 3 1 0 0),(4,.ptr 4 1 0 0),(5,.ptr 5 1 0 0),(6,I (i:Nat))]) (fun i=>[(2,1,⟨27,9,[fB ⟨nm,len,st,light,it⟩],2⟩),(3,1,⟨45,8,[eA ⟨az,au⟩],2⟩),(4,1,⟨42,4,[zN],2⟩),(5,1,⟨42,4,[eR (ofQ (ap (bE z u) (st.take i)))],2⟩)]) (fun i=>st.length-i) 0 (aP _) ⟨O,O,O,O,O,O,O,O,O,trivial⟩ ?_;intro i s1' hi;refine H ?_;rw[hms];refine aS O ?_ ?_<;>intro h
 .have hlt:i<st.length:=by have:=aB h;omega
  clear h;obtain⟨t,hx⟩:=aC hlt;have htm:=bm hx;have ok:=hst t htm;have hyt:=hyq t htm;obtain⟨c1,c2,c3,c4,c5,c6⟩:=hsz t htm;have i64x:i64 t.x:=by have:=ok.x;exact⟨J,J⟩
  have i64w:i64 t.w:=by have:=ok.w;exact⟨J,J⟩
  have e1:=l8 ⟨az,au⟩ t.x i64x (ha:=ha) J J;rw[show z+u*(t.x:Rat)=aZ z u t from O]at e1;have e2:=b_ t.w i64w;rw[show((t.w:Int):Rat)=wQ t from O]at e2;have e4:=yS t ok (h8 t htm) hyt J;have m1:=cy (ofQ (wQ t)) (ofQ (tt t (aZ z u t))) (hx:=Vq.ofQ (h:=c1)) (hy:=Vq.ofQ (h:=c4)) Y J;have d1:=cJ (ofQ (ap (bE z u) (st.take i))) (ofQ (bE z u t)) (hx:=Vq.ofQ (h:=s1 i)) (hy:=Vq.ofQ (h:=@HQ.mul _ _ 4 _ c1 c4)) J J;rw[<-dE (bE z u) hx]at d1;rw[show wQ t*tt t (aZ z u t)=bE z u t from O]at m1;have hw:=fg i;clear s1 hsz c1 c2 c3 c4 c5 c6;generalize hN0:ofQ (ap (bE z u) (st.take (i+1)))=N0 at *
  generalize ofQ (ap (bE z u) (st.take i))=O0,ofQ (bE z u t)=F0,ofQ (tt t (aZ z u t))=A0,ofQ (aZ z u t)=Y0,ofQ (wQ t)=W0 at *
  refine aQ hx ?_;refine cO 12 [21,22,23,24,25,26,27,28,29,30,31,32] ?_;refine G e2 ?_;refine G e1 ?_;refine G e4 ?_;refine G m1 ?_;refine G d1 ?_;refine H ?_;exact⟨i+1,hlt,J,O,O,O,O,congrArg I hw,O,O,O,by rw[hN0];rfl,trivial⟩
 .have hie:i=st.length:=by have:=aE h;omega
  clear h;subst hie;rw[bb];generalize ofQ (ap (bE z u) st)=P at *
  exact bW
theorem jB (f:ST->Rat)(x:ST)(l:List ST):ap f (x::l)=f x+ap f l:=by
 have key:∀(l:List ST) (a:Rat),l.foldl (fun a t=>a+f t) a=a+l.foldl (fun a t=>a+f t) 0:=by
  intro l
  induction l with
  |nil=>intro a;simp[jN]
  |cons y l ih=>intro a;rw[List.foldl_cons,List.foldl_cons,ih,ih (0+f y)];grind
 rw[ap,gX,key];show(0+f x)+ap f l=_;rw[Rat.zero_add]
def ki (z u f:Rat)(t:ST):Rat:=bP z u t*((xQ t-f)*(xQ t-f))
theorem F8 (z u f:Rat):∀l:List ST,ap (ki z u f) l=ap (mK z u) l-2*f*ap (fR z u) l+f*f*ap (bP z u) l
 |[]=>by show(0:Rat)=0-2*f*0+f*f*0;grind
 |x::l=>by rw[jB,jB,jB,jB,F8 z u f l,ki,mK,fR];grind
theorem Dm {p f:ST->Rat}(h0:∀t,p t=0->f t=0):∀ {l:List ST},(∀t∈l,0<=p t)->ap p l=0->ap f l=0
 |[],_,_=>rfl
 |x::l,hp,hs=>by
  have hge:∀ {l:List ST},(∀t∈l,0<=p t)->0<=ap p l:=by
   intro l
   induction l with
   |nil=>intro _;exact ez
   |cons y l ih =>
    intro h;rw[jB];have:=h y gU;have:=ih fun t ht=>h t (iB _ ht);grind
  rw[jB]at hs;have a:=hp x gU;have b:=hge fun t ht=>hp t (iB _ ht);rw[jB,h0 x bM,Dm h0 (fun t ht=>hp t (iB _ ht)) bM];grind
theorem Ex {t:ST}(ok:StOk t)(z u:Rat):0<=bP z u t:=by
 have h1:=v_ ok (aZ z u t);have h2:=ok.w;have:bP z u t=((2*dP t (aZ z u t)*t.w:Int):Rat):=by rw[bP,wQ,gW,gW];rfl
 rw[this];exact Rat.intCast_nonneg.2 (j_ (j_ Y h1.1) J)
theorem P_ {st:List ST}(hst:∀t∈st,StOk t)(z u:Rat):ap (ki z u (if ap (bP z u) st=0 then 0 else ap (fR z u) st/ap (bP z u) st)) st=if ap (bP z u) st=0 then 0 else ap (mK z u) st-ap (bP z u) st*(ap (fR z u) st/ap (bP z u) st)*(ap (fR z u) st/ap (bP z u) st):=by
 split
 .rename_i h;exact Dm (p:=bP z u) (fun t ht=>by rw[ki,ht,Rat.zero_mul]) (fun t ht=>Ex (hst t ht) z u) h
 .rename_i h;rw[F8];generalize ap (bP z u) st=A,ap (fR z u) st=F at *
  have e:F/A*A=F:=bM;generalize F/A=g at *
  rw[<-e];grind
set_option maxHeartbeats 16000000 in
theorem EG (s:SHP)(hst:∀t∈s.st,StOk t)(h6:s.st.length<=6)(h8:∀t∈s.st,t.L.length<=8)(a:AR){z u:Rat}{n m:Nat}[ha:Va a z u n m](hnm:n+m<=49000)(d:Nat)(hd1:1<=d)(hd2:d<=1000000000)(hv0:ap (bE z u) s.st≠0) :
  aO 146 [.agg (fB s),.agg (eA a),I (d:Nat)] (.tup [.agg (FG (pS s.st d z u)),.bool true]):=by
 have w0:=lN;have wq:=SD;have hms:(s.st.map eT).length=s.st.length:=ao;have hvl:=C9 s hst h6 h8 a (ha:=ha) hnm;have hyq:∀t∈s.st,hq (aZ z u t) (n+m+12):=fun t ht=>by
  have hx:=(hst t ht).x;have zx:Zb t.x:=aJ J J;exact(HQ.mono (h:=@HQ.add _ _ (n+1) (m+1+4) ha.z.hq (@HQ.mul _ _ (m+1) 4 ha.t.hq HQ.int)) J).ok
 have hsum:=fun i=>ve hst h8 h6 ha.z.hq.ok ha.t.hq.ok i;generalize hNN:n+m+12=N at *
 have hN:N<=49012:=J;have hsz:=fun t ht=>E_ (hst t ht) (h8 t ht) (hyq t ht);have z2:Zb 2:=aJ Y Y;have z3:Zb 3:=aJ Y Y;have q23:HQ (2/3:Rat) 8:=by rw[show(2/3:Rat)=((2:Int):Rat)/((3:Int):Rat) from O];exact @HQ.div _ _ 4 4 HQ.int HQ.int
 have b4:∀t∈s.st,hq (bP z u t) 12:=fun t ht=>(hsz t ht).2.2.2.2.2.ok;have b5:∀t∈s.st,hq (fR z u t) 16:=fun t ht=>by
  obtain⟨c1,c2,c3,c4,c5,c6⟩:=hsz t ht;exact(@HQ.mul _ _ 12 4 c6 c2).ok
 have b6:∀t∈s.st,hq (dW z u t) 24:=fun t ht=>DS (hsz t ht).2.2.1 (hsz t ht).1;have s1:∀i,HQ (ap (bE z u) (s.st.take i)) (N+16):=fun i=>(hsum i).1.mono J;have s2:∀i,HQ (ap (ns z u) (s.st.take i)) (N+16):=fun i=>(hsum i).2.1.mono J;have s3:∀i,HQ (ap (ko z u) (s.st.take i)) (4*N+13):=fun i=>(hsum i).2.2.mono J;have s4:=fun i=>jb b4 h6 i;have s5:=fun i=>jb b5 h6 i;have s6:=fun i=>jb b6 h6 i;have hle:=P_ hst z u;clear b5 b6 hsum;have h60:s.st.length<=6:=h6;obtain⟨nm,len,st,light,it⟩:=s;obtain⟨az,au⟩:=a;simp only at *
 have k1:=s1 st.length;have k2:=s2 st.length;have k3:=s3 st.length;have k4:=s4 st.length;have k5:=s5 st.length;have k6:=s6 st.length;rw[bb]at k1 k2 k3 k4 k5 k6;have g0:=gu (ofQ (ap (bE z u) st)) (hx:=Vq.ofQ (h:=k1)) J;have g0s:¬sgn (ap (bE z u) st)=0:=fun e=>hv0 ((gy _).1 e);generalize sgn (ap (bE z u) st)=gv at *
 refine ax Proofs.Tryz.func146 ?_;refine G hvl ?_;refine aj g0 ?_;refine D ?_ ?_<;>intro h
 .exact absurd (aB h) g0s
 clear h g0 g0s hvl;refine G w0 ?_;refine G w0 ?_;refine G w0 ?_;refine G w0 ?_;refine G w0 ?_;refine H ?_;refine aT [(2,I (d:Nat)),(3,.ptr 3 1 0 0),(4,.ptr 4 1 0 0),(6,.ptr 6 1 0 0),(8,.ptr 8 1 0 0),(9,.ptr 9 1 0 0),(10,.ptr 10 1 0 0),(11,.ptr 11 1 0 0),(12,.ptr 12 1 0 0),(13,.ptr 13 1 0 0),(14,I ((0:Nat):Int))] [(3,1,⟨27,9,[fB ⟨nm,len,st,light,it⟩],2⟩),(4,1,⟨45,8,[eA ⟨az,au⟩],2⟩),(6,1,⟨217,36,[zN++zN++zN++zN++zN++zN++zN++zN++zN],2⟩),(8,1,⟨42,4,[eR (ofQ (ap (bE z u) st))],2⟩),(9,1,⟨42,4,[eR (ofQ 0)],2⟩),(10,1,⟨42,4,[eR (ofQ 0)],2⟩),(11,1,⟨42,4,[eR (ofQ 0)],2⟩),(12,1,⟨42,4,[eR (ofQ 0)],2⟩),(13,1,⟨42,4,[eR (ofQ 0)],2⟩)] ⟨O,O,O,O,O,O,O,O,O,O,O,O,O,O,O,O,O,O,O,O,trivial⟩ ?_;intro s0;refine ah (fun i:Nat=>i<=st.length) (fun i=>[(2,I (d:Nat)),(3,.ptr 3 1 0 0),(4,.ptr 4 1 0 0),(6,.ptr 6 1 0 0),(8,.ptr 8 1 0 0),(9,.ptr 9 1 0 0),(10,.ptr 10 1 0 0),(11,.ptr 11 1 0 0),(12,.ptr 12 1 0 0),(13,.ptr 13 1 0 0),(14,I (i:Nat))]) (fun i=>[(3,1,⟨27,9,[fB ⟨nm,len,st,light,it⟩],2⟩),(4,1,⟨45,8,[eA ⟨az,au⟩],2⟩),(6,1,⟨217,36,[zN++zN++zN++zN++zN++zN++zN++zN++zN],2⟩),(8,1,⟨42,4,[eR (ofQ (ap (bE z u) st))],2⟩),(9,1,⟨42,4,[eR (ofQ (ap (ns z u) (st.take i)))],2⟩),(10,1,⟨42,4,[eR (ofQ (ap (ko z u) (st.take i)))],2⟩),(11,1,⟨42,4,[eR (ofQ (ap (bP z u) (st.take i)))],2⟩),(12,1,⟨42,4,[eR (ofQ (ap (fR z u) (st.take i)))],2⟩),(13,1,⟨42,4,[eR (ofQ (ap (dW z u) (st.take i)))],2⟩)]) (fun i=>st.length-i) 0 (aP _) ⟨O,O,O,O,O,O,O,O,O,O,O,O,O,O,O,O,O,O,O,O,trivial⟩ ?_;intro i s1' hi;refine H ?_;rw[hms];refine aS O ?_ ?_<;>intro h
 .have hlt:i<st.length:=by have:=aB h;omega
  clear h k1 k2 k3 k4 k5 k6 hle;obtain⟨t,hx⟩:=aC hlt;have htm:=bm hx;have ok:=hst t htm;have hyt:=hyq t htm;obtain⟨c1,c2,c3,c4,c5,c6⟩:=hsz t htm;have hha:=v_ ok (aZ z u t);have hww:=ok.w;have i64x:i64 t.x:=by have:=ok.x;exact⟨J,J⟩
  have i64w:i64 t.w:=⟨J,J⟩;have i64h:i64 (dP t (aZ z u t)):=⟨J,J⟩;have e1:=l8 ⟨az,au⟩ t.x i64x (ha:=ha) J J;rw[show z+u*(t.x:Rat)=aZ z u t from O]at e1;have e2:=b_ t.w i64w;rw[show((t.w:Int):Rat)=wQ t from O]at e2;have e3:=b_ t.x i64x;rw[show((t.x:Int):Rat)=xQ t from O]at e3;have e4:=yS t ok (h8 t htm) hyt J;have e5:=Ir t ok (h8 t htm) hyt J;have e6:=sY t ok hyt J;have pb:0<=dP t (aZ z u t)*t.w/\dP t (aZ z u t)*t.w<=10000000000:=⟨j_ hha.1 J,uJ hha.2 hww.2 J Y⟩;have pc:0<=dP t (aZ z u t)*dP t (aZ z u t)/\dP t (aZ z u t)*dP t (aZ z u t)<=10000000000:=⟨j_ hha.1 hha.1,uJ hha.2 hha.2 hha.1 Y⟩;have pd:2*dP t (aZ z u t)*t.w=2*(dP t (aZ z u t)*t.w):=by rw[Int.mul_assoc]
  have r1:IntKind.i64.wrap (2*dP t (aZ z u t))=2*dP t (aZ z u t):=wrap_i64 J J;have r2:IntKind.i64.wrap (2*dP t (aZ z u t)*t.w)=2*dP t (aZ z u t)*t.w:=wrap_i64 J J;have r3:IntKind.i64.wrap (dP t (aZ z u t)*dP t (aZ z u t))=dP t (aZ z u t)*dP t (aZ z u t):=wrap_i64 J J;have r4:IntKind.i64.wrap (dP t (aZ z u t)*t.w)=dP t (aZ z u t)*t.w:=wrap_i64 J J;have e7:=b_ (2*dP t (aZ z u t)*t.w) ⟨J,J⟩;rw[show((2*dP t (aZ z u t)*t.w:Int):Rat)=bP z u t by rw[bP,wQ,gW,gW];rfl]at e7;have e8:=b_ (dP t (aZ z u t)*dP t (aZ z u t)) ⟨J,J⟩;have e9:=b_ (dP t (aZ z u t)*t.w) ⟨J,J⟩;have zc:Zb (dP t (aZ z u t)*dP t (aZ z u t)):=aJ J J;have zd:Zb (dP t (aZ z u t)*t.w):=aJ J J;have m1:=cy (ofQ (wQ t)) (ofQ (tt t (aZ z u t))) (hx:=Vq.ofQ (h:=c1)) (hy:=Vq.ofQ (h:=c4)) Y J;rw[show wQ t*tt t (aZ z u t)=bE z u t from O]at m1;have vv:HQ (bE z u t) (4+(7*N+102)):=@HQ.mul _ _ 4 _ c1 c4;have m2:=cy (ofQ (bE z u t)) (ofQ (xQ t)) (hx:=Vq.ofQ (h:=vv)) (hy:=Vq.ofQ (h:=c2)) J Y;rw[show bE z u t*xQ t=ns z u t from O]at m2;have m3:=cy (ofQ (wQ t)) (ofQ (Gg t (aZ z u t))) (hx:=Vq.ofQ (h:=c1)) (hy:=Vq.ofQ (h:=c5)) Y J;rw[show wQ t*Gg t (aZ z u t)=ko z u t from O]at m3;have m5:=cy (ofQ (bP z u t)) (ofQ (xQ t)) (hx:=Vq.ofQ (h:=c6)) (hy:=Vq.ofQ (h:=c2)) Y Y;rw[show bP z u t*xQ t=fR z u t from O]at m5;have m6:=cy (ofQ ((dP t (aZ z u t)*dP t (aZ z u t):Int):Rat)) (ofQ ((dP t (aZ z u t)*t.w:Int):Rat)) (hx:=Vq.ofQ (h:=HQ.int)) (hy:=Vq.ofQ (h:=HQ.int)) Y Y;have m7:=cy (ofQ (((dP t (aZ z u t)*dP t (aZ z u t):Int):Rat)*((dP t (aZ z u t)*t.w:Int):Rat))) (ofQ (2/3)) (hx:=Vq.ofQ (h:=@HQ.mul _ _ 4 4 HQ.int HQ.int)) (hy:=Vq.ofQ (h:=q23)) Y Y;rw[show((dP t (aZ z u t)*dP t (aZ z u t):Int):Rat)*((dP t (aZ z u t)*t.w:Int):Rat)*(2/3)=dW z u t by rw[dW,wQ,Rat.intCast_mul,Rat.intCast_mul];grind]at m7;have d1:=cJ (ofQ (ap (ns z u) (st.take i))) (ofQ (ns z u t)) (hx:=Vq.ofQ (h:=s2 i)) (hy:=Vq.ofQ (h:=@HQ.mul _ _ _ 4 vv c2)) J J;have d2:=cJ (ofQ (ap (ko z u) (st.take i))) (ofQ (ko z u t)) (hx:=Vq.ofQ (h:=s3 i)) (hy:=Vq.ofQ (h:=@HQ.mul _ _ 4 _ c1 c5)) J J;have d3:=cJ (ofQ (ap (bP z u) (st.take i))) (ofQ (bP z u t)) (hx:=Vq.ofQ (h:=s4 i)) (hy:=Vq.ofQ (h:=c6)) J J;have d4:=cJ (ofQ (ap (fR z u) (st.take i))) (ofQ (fR z u t)) (hx:=Vq.ofQ (h:=s5 i)) (hy:=Vq.ofQ (h:=@HQ.mul _ _ 12 4 c6 c2)) J J;have d5:=cJ (ofQ (ap (dW z u) (st.take i))) (ofQ (dW z u t)) (hx:=Vq.ofQ (h:=s6 i)) (hy:=Vq.ofQ (h:=⟨DS c3 c1⟩)) J J;rw[<-dE (ns z u) hx]at d1;rw[<-dE (ko z u) hx]at d2;rw[<-dE (bP z u) hx]at d3;rw[<-dE (fR z u) hx]at d4;rw[<-dE (dW z u) hx]at d5;have hw:=fg i;clear s1 s2 s3 s4 s5 s6 hsz c1 c2 c3 c4 c5 c6 vv b4;generalize hN1:ofQ (ap (ns z u) (st.take (i+1)))=N1 at *
  generalize ofQ (ap (ns z u) (st.take i))=O1,ofQ (ns z u t)=F1 at *
  generalize hN2:ofQ (ap (ko z u) (st.take (i+1)))=N2 at *
  generalize ofQ (ap (ko z u) (st.take i))=O2,ofQ (ko z u t)=F2 at *
  generalize hN3:ofQ (ap (bP z u) (st.take (i+1)))=N3 at *
  generalize ofQ (ap (bP z u) (st.take i))=O3,ofQ (bP z u t)=F3 at *
  generalize hN4:ofQ (ap (fR z u) (st.take (i+1)))=N4 at *
  generalize ofQ (ap (fR z u) (st.take i))=O4,ofQ (fR z u t)=F4 at *
  generalize hN5:ofQ (ap (dW z u) (st.take (i+1)))=N5 at *
  generalize ofQ (ap (dW z u) (st.take i))=O5,ofQ (dW z u t)=F5,ofQ (bE z u t)=F0,ofQ (((dP t (aZ z u t)*dP t (aZ z u t):Int):Rat)*((dP t (aZ z u t)*t.w:Int):Rat))=C2,ofQ ((dP t (aZ z u t)*dP t (aZ z u t):Int):Rat)=C0,ofQ ((dP t (aZ z u t)*t.w:Int):Rat)=C1,ofQ (tt t (aZ z u t))=A0,ofQ (Gg t (aZ z u t))=M0 at *
  generalize dP t (aZ z u t)=hh,ofQ (aZ z u t)=Y0,ofQ (wQ t)=W0,ofQ (xQ t)=X0,ofQ (ap (bE z u) st)=V0,ofQ (2/3)=T23 at *
  refine aQ hx ?_;refine G e1 ?_;refine cN 10 ?_;refine am (fp 17) ?_;refine be [(7,17),(8,17)] aK aK ?_;refine G e2 ?_;refine G e4 ?_;refine G m1 ?_;refine cO 7 [60,61,62,63,64,65,66] ?_;refine G e3 ?_;refine G m2 ?_;refine G d1 ?_;refine cO 9 [67,68,69,70,71,72,73,74,75] ?_;refine G e2 ?_;refine G e5 ?_;refine G m3 ?_;refine G d2 ?_;refine aj e6 ?_;refine H ?_;rw[r1];refine H ?_;rw[r2];refine G e7 ?_;refine G d3 ?_;refine cO 7 [88,89,90,91,92,93,94] ?_;refine G e3 ?_;refine G m5 ?_;refine G d4 ?_;refine cO 14 [95,96,97,98,99,100,101,102,103,104,105,106,107,108] ?_;refine H ?_;rw[r3];refine G e8 ?_;refine H ?_;rw[r4];refine G e9 ?_;refine G m6 ?_;refine G wq ?_;refine G m7 ?_;refine G d5 ?_;refine H ?_;exact⟨i+1,hlt,J,O,O,O,O,O,O,O,O,O,O,congrArg I hw,O,O,O,O,by rw[hN1];rfl,by rw[hN2];rfl,by rw[hN3];rfl,by rw[hN4];rfl,by rw[hN5];rfl,trivial⟩
 have hie:i=st.length:=by have:=aE h;omega
 clear h;subst hie;simp only[bb];obtain⟨fl,hfl⟩:∃fl,fl=if ap (bP z u) st=0 then 0 else ap (fR z u) st/ap (bP z u) st:=⟨_,O⟩
 rw[<-hfl]at hle;have hres:FG (pS st d z u)=eR (ofQ (ap (bE z u) st))++eR (ofQ (ap (bE z u) st*((d:Rat)/1000000000)))++eR (ofQ (ap (ns z u) st/ap (bE z u) st))++eR (ofQ (ap (ko z u) st/ap (bE z u) st))++eR (ofQ (ap (bP z u) st))++eR (ofQ fl)++eR (ofQ (ap (dW z u) st))++eR (ofQ (ap (ki z u fl) st))++eR (ofQ (ap (ko z u) st/ap (bE z u) st+ap (dW z u) st/ap (bE z u) st)):=by
  rw[hle];rcases yz st d z u with⟨hA,e⟩|⟨hA,f,l,hf,hl,e⟩
  .rw[e,hfl,if_pos hA,if_pos hA]
  .rw[e,hfl,if_neg hA,if_neg hA,hl,hf]
 rw[hres];clear hres hle;have hflq:HQ fl 220:=by
  rw[hfl];split
  .exact HQ.zero.mono Y
  .exact(@HQ.div _ _ _ _ k5 k4).mono Y
 have s7:∀i,HQ (ap (ki z u fl) (st.take i)) (6*462+10):=fun i=>jb (M:=462) (fun t ht=>(HQ.mono (h:=@HQ.mul _ _ 12 _ (hsz t ht).2.2.2.2.2 (@HQ.mul _ _ 225 225 (@HQ.sub _ _ 4 220 (hsz t ht).2.1 hflq) (@HQ.sub _ _ 4 220 (hsz t ht).2.1 hflq))) Y).ok) h6 i;have g1:=yZ (ofQ (ap (bE z u) st)) (hx:=Vq.ofQ (h:=k1)) J d hd1 hd2;have g2:=iO (ofQ (ap (ns z u) st)) (ofQ (ap (bE z u) st)) (hx:=Vq.ofQ (h:=k2)) (hy:=Vq.ofQ (h:=k1)) J J hv0;have g3:=iO (ofQ (ap (ko z u) st)) (ofQ (ap (bE z u) st)) (hx:=Vq.ofQ (h:=k3)) (hy:=Vq.ofQ (h:=k1)) J J hv0;have g4:=gu (ofQ (ap (bP z u) st)) (hx:=Vq.ofQ (h:=k4)) Y;have g4s:=gy (ap (bP z u) st);have g5:=iO (ofQ (ap (dW z u) st)) (ofQ (ap (bE z u) st)) (hx:=Vq.ofQ (h:=k6)) (hy:=Vq.ofQ (h:=k1)) J J hv0;have g6:=cJ (ofQ (ap (ko z u) st/ap (bE z u) st)) (ofQ (ap (dW z u) st/ap (bE z u) st)) (hx:=Vq.ofQ (h:=@HQ.div _ _ _ _ k3 k1)) (hy:=Vq.ofQ (h:=@HQ.div _ _ _ _ k6 k1)) J J;have g7:=fun h=>iO (ofQ (ap (fR z u) st)) (ofQ (ap (bP z u) st)) (hx:=Vq.ofQ (h:=k5)) (hy:=Vq.ofQ (h:=k4)) Y Y h;clear k1 k2 k3 k4 k5 k6 s1 s2 s3 s4 s5 s6 hv0;generalize sgn (ap (bP z u) st)=ga at *
 generalize ap (bP z u) st=Aq,ofQ (ap (ko z u) st/ap (bE z u) st+ap (dW z u) st/ap (bE z u) st)=ME,ofQ (ap (dW z u) st/ap (bE z u) st)=CV,ofQ (ap (ko z u) st/ap (bE z u) st)=ZV,ofQ (ap (ns z u) st/ap (bE z u) st)=XV,ofQ (ap (bE z u) st*((d:Rat)/1000000000))=DV,ofQ (ap (bE z u) st)=V0,ofQ (ap (ns z u) st)=SX0,ofQ (ap (ko z u) st)=SZ0,ofQ (ap (dW z u) st)=C0 at *
 generalize hFq:ap (fR z u) st=Fq at *
 generalize hZ0:ofQ (0:Rat)=Z0 at *
 generalize hA0:ofQ Aq=A0 at *
 generalize hF0:ofQ Fq=F0 at *
 refine cN 18 ?_;refine aT [(2,I (d:Nat)),(3,.ptr 3 1 0 0),(4,.ptr 4 1 0 0),(6,.ptr 6 1 0 0),(8,.ptr 8 1 0 0),(9,.ptr 9 1 0 0),(10,.ptr 10 1 0 0),(11,.ptr 11 1 0 0),(12,.ptr 12 1 0 0),(13,.ptr 13 1 0 0)] [(3,1,⟨27,9,[fB ⟨nm,len,st,light,it⟩],2⟩),(4,1,⟨45,8,[eA ⟨az,au⟩],2⟩),(6,1,⟨217,36,[[.bool false,.nil,.bool false,.nil,.bool false,.nil,.bool false,.nil,.bool false,.nil,.bool false,.nil,.bool false,.nil,.bool false,.nil,.bool false,.nil,.bool false,.nil,.bool false,.nil,.bool false,.nil,.bool false,.nil,.bool false,.nil,.bool false,.nil,.bool false,.nil,.bool false,.nil,.bool false,.nil]],2⟩),(8,1,⟨42,4,[[.bool V0.n.neg,.sl (V0.n.l.map eU),.bool V0.d.neg,.sl (V0.d.l.map eU)]],2⟩),(9,1,⟨42,4,[[.bool SX0.n.neg,.sl (SX0.n.l.map eU),.bool SX0.d.neg,.sl (SX0.d.l.map eU)]],2⟩),(10,1,⟨42,4,[[.bool SZ0.n.neg,.sl (SZ0.n.l.map eU),.bool SZ0.d.neg,.sl (SZ0.d.l.map eU)]],2⟩),(11,1,⟨42,4,[[.bool A0.n.neg,.sl (A0.n.l.map eU),.bool A0.d.neg,.sl (A0.d.l.map eU)]],2⟩),(12,1,⟨42,4,[[.bool F0.n.neg,.sl (F0.n.l.map eU),.bool F0.d.neg,.sl (F0.d.l.map eU)]],2⟩),(13,1,⟨42,4,[[.bool C0.n.neg,.sl (C0.n.l.map eU),.bool C0.d.neg,.sl (C0.d.l.map eU)]],2⟩)] ⟨O,O,O,O,O,O,O,O,O,O,O,O,O,O,O,O,O,O,O,trivial⟩ ?_;intro s5;refine am (fp 20) ?_;refine be [(15,20),(16,20)] aK aK ?_;refine G g1 ?_;refine G g2 ?_;refine G g3 ?_;refine G w0 ?_;refine G w0 ?_;refine iH O ?_;refine Qg (w := .agg [.bool V0.n.neg,.sl (V0.n.l.map eU),.bool V0.d.neg,.sl (V0.d.l.map eU),.bool DV.n.neg,.sl (DV.n.l.map eU),.bool DV.d.neg,.sl (DV.d.l.map eU),.bool XV.n.neg,.sl (XV.n.l.map eU),.bool XV.d.neg,.sl (XV.d.l.map eU),.bool ZV.n.neg,.sl (ZV.n.l.map eU),.bool ZV.d.neg,.sl (ZV.d.l.map eU),.bool A0.n.neg,.sl (A0.n.l.map eU),.bool A0.d.neg,.sl (A0.d.l.map eU),.bool Z0.n.neg,.sl (Z0.n.l.map eU),.bool Z0.d.neg,.sl (Z0.d.l.map eU),.bool C0.n.neg,.sl (C0.n.l.map eU),.bool C0.d.neg,.sl (C0.d.l.map eU),.bool Z0.n.neg,.sl (Z0.n.l.map eU),.bool Z0.d.neg,.sl (Z0.d.l.map eU),.bool false,.nil,.bool false,.nil]) ?_ ?_
 .rfl
 refine cN 19 ?_;refine aT [(2,I (d:Nat)),(3,.ptr 3 1 0 0),(4,.ptr 4 1 0 0),(6,.ptr 6 1 0 0),(8,.ptr 8 1 0 0),(11,.ptr 11 1 0 0),(12,.ptr 12 1 0 0),(13,.ptr 13 1 0 0),(20,.ptr 20 ((s5.own 20).1+2+1) 0 0)] [(3,1,⟨27,9,[fB ⟨nm,len,st,light,it⟩],2⟩),(4,1,⟨45,8,[eA ⟨az,au⟩],2⟩),(6,1,⟨217,36,[[.bool false,.nil,.bool false,.nil,.bool false,.nil,.bool false,.nil,.bool false,.nil,.bool false,.nil,.bool false,.nil,.bool false,.nil,.bool false,.nil,.bool false,.nil,.bool false,.nil,.bool false,.nil,.bool false,.nil,.bool false,.nil,.bool false,.nil,.bool false,.nil,.bool false,.nil,.bool false,.nil]],2⟩),(8,1,⟨42,4,[[.bool V0.n.neg,.sl (V0.n.l.map eU),.bool V0.d.neg,.sl (V0.d.l.map eU)]],2⟩),(11,1,⟨42,4,[[.bool A0.n.neg,.sl (A0.n.l.map eU),.bool A0.d.neg,.sl (A0.d.l.map eU)]],2⟩),(12,1,⟨42,4,[[.bool F0.n.neg,.sl (F0.n.l.map eU),.bool F0.d.neg,.sl (F0.d.l.map eU)]],2⟩),(13,1,⟨42,4,[[.bool C0.n.neg,.sl (C0.n.l.map eU),.bool C0.d.neg,.sl (C0.d.l.map eU)]],2⟩),(20,(s5.own 20).1+2+1,⟨217,36,[[.bool V0.n.neg,.sl (V0.n.l.map eU),.bool V0.d.neg,.sl (V0.d.l.map eU),.bool DV.n.neg,.sl (DV.n.l.map eU),.bool DV.d.neg,.sl (DV.d.l.map eU),.bool XV.n.neg,.sl (XV.n.l.map eU),.bool XV.d.neg,.sl (XV.d.l.map eU),.bool ZV.n.neg,.sl (ZV.n.l.map eU),.bool ZV.d.neg,.sl (ZV.d.l.map eU),.bool A0.n.neg,.sl (A0.n.l.map eU),.bool A0.d.neg,.sl (A0.d.l.map eU),.bool Z0.n.neg,.sl (Z0.n.l.map eU),.bool Z0.d.neg,.sl (Z0.d.l.map eU),.bool C0.n.neg,.sl (C0.n.l.map eU),.bool C0.d.neg,.sl (C0.d.l.map eU),.bool Z0.n.neg,.sl (Z0.n.l.map eU),.bool Z0.d.neg,.sl (Z0.d.l.map eU),.bool false,.nil,.bool false,.nil]],2⟩)] ⟨O,O,O,O,O,O,O,O,O,O,O,O,O,O,O,O,O,trivial⟩ ?_;generalize (s5.own 20).1+2+1=g20;intro s6;subst hZ0 hA0 hF0;refine aj g4 ?_;refine D ?_ ?_<;>intro h
 .have hA:¬Aq=0:=fun e=>absurd (g4s.2 e) (by simpa using h);clear h;rw[if_neg hA]at hfl;have g8:=g7 hA;rw[<-hfl]at g8;clear g7 g4s g4;refine G g8 ?_;refine H ?_;generalize hFL0:ofQ fl=FL0 at *
  refine aT [(2,I (d:Nat)),(3,.ptr 3 1 0 0),(4,.ptr 4 1 0 0),(6,.ptr 6 1 0 0),(8,.ptr 8 1 0 0),(13,.ptr 13 1 0 0),(20,.ptr 20 g20 0 0),(21,I ((0:Nat):Int))] [(3,1,⟨27,9,[fB ⟨nm,len,st,light,it⟩],2⟩),(4,1,⟨45,8,[eA ⟨az,au⟩],2⟩),(6,1,⟨217,36,[zN++zN++zN++zN++zN++zN++zN++zN++zN],2⟩),(8,1,⟨42,4,[eR V0],2⟩),(13,1,⟨42,4,[eR C0],2⟩),(20,g20,⟨217,36,[eR V0++eR DV++eR XV++eR ZV++eR (ofQ Aq)++eR FL0++eR C0++eR (ofQ 0)++zN],2⟩)] ⟨O,O,O,O,O,O,O,O,O,O,O,O,O,O,trivial⟩ ?_;intro s0;refine ah (fun i:Nat=>i<=st.length) (fun i=>[(2,I (d:Nat)),(3,.ptr 3 1 0 0),(4,.ptr 4 1 0 0),(6,.ptr 6 1 0 0),(8,.ptr 8 1 0 0),(13,.ptr 13 1 0 0),(20,.ptr 20 g20 0 0),(21,I (i:Nat))]) (fun i=>[(3,1,⟨27,9,[fB ⟨nm,len,st,light,it⟩],2⟩),(4,1,⟨45,8,[eA ⟨az,au⟩],2⟩),(6,1,⟨217,36,[zN++zN++zN++zN++zN++zN++zN++zN++zN],2⟩),(8,1,⟨42,4,[eR V0],2⟩),(13,1,⟨42,4,[eR C0],2⟩),(20,g20,⟨217,36,[eR V0++eR DV++eR XV++eR ZV++eR (ofQ Aq)++eR FL0++eR C0++eR (ofQ (ap (ki z u fl) (st.take i)))++zN],2⟩)]) (fun i=>st.length-i) 0 (aP _) ⟨O,O,O,O,O,O,O,O,O,O,O,O,O,O,trivial⟩ ?_;intro i s1' hi;refine H ?_;rw[hms];refine aS O ?_ ?_<;>intro h
  .have hlt:i<st.length:=by have:=aB h;omega
   clear h;obtain⟨t,hx⟩:=aC hlt;have htm:=bm hx;have ok:=hst t htm;have hyt:=hyq t htm;obtain⟨c1,c2,c3,c4,c5,c6⟩:=hsz t htm;have hha:=v_ ok (aZ z u t);have hww:=ok.w;have i64x:i64 t.x:=by have:=ok.x;exact⟨J,J⟩
   have e1:=l8 ⟨az,au⟩ t.x i64x (ha:=ha) J J;rw[show z+u*(t.x:Rat)=aZ z u t from O]at e1;have e3:=b_ t.x i64x;rw[show((t.x:Int):Rat)=xQ t from O]at e3;have e6:=sY t ok hyt J;have pb:0<=dP t (aZ z u t)*t.w/\dP t (aZ z u t)*t.w<=10000000000:=⟨j_ hha.1 J,uJ hha.2 hww.2 J Y⟩;have pd:2*dP t (aZ z u t)*t.w=2*(dP t (aZ z u t)*t.w):=by rw[Int.mul_assoc]
   have r1:IntKind.i64.wrap (2*dP t (aZ z u t))=2*dP t (aZ z u t):=wrap_i64 J J;have r2:IntKind.i64.wrap (2*dP t (aZ z u t)*t.w)=2*dP t (aZ z u t)*t.w:=wrap_i64 J J;have e7:=b_ (2*dP t (aZ z u t)*t.w) ⟨J,J⟩;rw[show((2*dP t (aZ z u t)*t.w:Int):Rat)=bP z u t by rw[bP,wQ,gW,gW];rfl]at e7;have hdq:HQ (xQ t-fl) 225:=@HQ.sub _ _ 4 220 c2 hflq;have d0:=iP (ofQ (xQ t)) (ofQ fl) (hx:=Vq.ofQ (h:=c2)) (hy:=Vq.ofQ (h:=hflq)) Y Y;have n1:=cy (ofQ (xQ t-fl)) (ofQ (xQ t-fl)) (hx:=Vq.ofQ (h:=hdq)) (hy:=Vq.ofQ (h:=hdq)) Y Y;have n2:=cy (ofQ (bP z u t)) (ofQ ((xQ t-fl)*(xQ t-fl))) (hx:=Vq.ofQ (h:=c6)) (hy:=Vq.ofQ (h:=@HQ.mul _ _ 225 225 hdq hdq)) Y Y;rw[show bP z u t*((xQ t-fl)*(xQ t-fl))=ki z u fl t from O]at n2;have n3:=cJ (ofQ (ap (ki z u fl) (st.take i))) (ofQ (ki z u fl t)) (hx:=Vq.ofQ (h:=s7 i)) (hy:=Vq.ofQ (h:=@HQ.mul _ _ 12 450 c6 (@HQ.mul _ _ 225 225 hdq hdq))) Y Y;rw[<-dE (ki z u fl) hx]at n3;have hw:=fg i;rw[hFL0]at d0;clear s7 hsz c1 c2 c3 c4 c5 c6 hdq;generalize hN1:ofQ (ap (ki z u fl) (st.take (i+1)))=N1 at *
   generalize ofQ (ap (ki z u fl) (st.take i))=O1,ofQ (ki z u fl t)=F1,ofQ ((xQ t-fl)*(xQ t-fl))=DD,ofQ (xQ t-fl)=D1,ofQ (bP z u t)=PL,dP t (aZ z u t)=hh,ofQ (aZ z u t)=Y0,ofQ (xQ t)=X0,ofQ Aq=A0 at *
   refine aQ hx ?_;refine cN 25 ?_;refine am (fp 23) ?_;refine be [(6,23),(7,23)] aK aK ?_;refine G e3 ?_;refine G d0 ?_;refine cN 26 ?_;refine am (fp 24) ?_;refine be [(11,24),(12,24)] aK aK ?_;refine G e1 ?_;refine aj e6 ?_;refine H ?_;rw[r1];refine H ?_;rw[r2];refine G e7 ?_;refine H ?_;refine cd [] [20] 8 [8,9] aK aK ?_;refine G n1 ?_;refine G n2 ?_;refine G n3 ?_;refine H ?_;exact⟨i+1,hlt,J,O,O,O,O,O,O,O,congrArg I hw,O,O,O,O,O,by rw[hN1];rfl,trivial⟩
  have hie:i=st.length:=by have:=aE h;omega
  clear h;subst hie;rw[bb];generalize ofQ (ap (ki z u fl) st)=L0,ofQ Aq=A0 at *
  refine H ?_;refine cd [] [20] 6 [6,7] aK aK ?_;refine G g5 ?_;refine G g6 ?_;exact bW
 .have hA:Aq=0:=g4s.1 (by simpa using h);clear h;rw[if_pos hA]at hfl;have hf0:ofQ fl=ofQ 0:=by rw[hfl]
  rw[hf0];clear g7 g4s g4;refine H ?_;have hFL0:=hf0;refine aT [(2,I (d:Nat)),(3,.ptr 3 1 0 0),(4,.ptr 4 1 0 0),(6,.ptr 6 1 0 0),(8,.ptr 8 1 0 0),(13,.ptr 13 1 0 0),(20,.ptr 20 g20 0 0),(21,I ((0:Nat):Int))] [(3,1,⟨27,9,[fB ⟨nm,len,st,light,it⟩],2⟩),(4,1,⟨45,8,[eA ⟨az,au⟩],2⟩),(6,1,⟨217,36,[zN++zN++zN++zN++zN++zN++zN++zN++zN],2⟩),(8,1,⟨42,4,[eR V0],2⟩),(13,1,⟨42,4,[eR C0],2⟩),(20,g20,⟨217,36,[eR V0++eR DV++eR XV++eR ZV++eR (ofQ Aq)++eR (ofQ 0)++eR C0++eR (ofQ 0)++zN],2⟩)] ⟨O,O,O,O,O,O,O,O,O,O,O,O,O,O,trivial⟩ ?_;intro s0;refine ah (fun i:Nat=>i<=st.length) (fun i=>[(2,I (d:Nat)),(3,.ptr 3 1 0 0),(4,.ptr 4 1 0 0),(6,.ptr 6 1 0 0),(8,.ptr 8 1 0 0),(13,.ptr 13 1 0 0),(20,.ptr 20 g20 0 0),(21,I (i:Nat))]) (fun i=>[(3,1,⟨27,9,[fB ⟨nm,len,st,light,it⟩],2⟩),(4,1,⟨45,8,[eA ⟨az,au⟩],2⟩),(6,1,⟨217,36,[zN++zN++zN++zN++zN++zN++zN++zN++zN],2⟩),(8,1,⟨42,4,[eR V0],2⟩),(13,1,⟨42,4,[eR C0],2⟩),(20,g20,⟨217,36,[eR V0++eR DV++eR XV++eR ZV++eR (ofQ Aq)++eR (ofQ 0)++eR C0++eR (ofQ (ap (ki z u fl) (st.take i)))++zN],2⟩)]) (fun i=>st.length-i) 0 (aP _) ⟨O,O,O,O,O,O,O,O,O,O,O,O,O,O,trivial⟩ ?_;intro i s1' hi;refine H ?_;rw[hms];refine aS O ?_ ?_<;>intro h
  .have hlt:i<st.length:=by have:=aB h;omega
   clear h;obtain⟨t,hx⟩:=aC hlt;have htm:=bm hx;have ok:=hst t htm;have hyt:=hyq t htm;obtain⟨c1,c2,c3,c4,c5,c6⟩:=hsz t htm;have hha:=v_ ok (aZ z u t);have hww:=ok.w;have i64x:i64 t.x:=by have:=ok.x;exact⟨J,J⟩
   have e1:=l8 ⟨az,au⟩ t.x i64x (ha:=ha) J J;rw[show z+u*(t.x:Rat)=aZ z u t from O]at e1;have e3:=b_ t.x i64x;rw[show((t.x:Int):Rat)=xQ t from O]at e3;have e6:=sY t ok hyt J;have pb:0<=dP t (aZ z u t)*t.w/\dP t (aZ z u t)*t.w<=10000000000:=⟨j_ hha.1 J,uJ hha.2 hww.2 J Y⟩;have pd:2*dP t (aZ z u t)*t.w=2*(dP t (aZ z u t)*t.w):=by rw[Int.mul_assoc]
   have r1:IntKind.i64.wrap (2*dP t (aZ z u t))=2*dP t (aZ z u t):=wrap_i64 J J;have r2:IntKind.i64.wrap (2*dP t (aZ z u t)*t.w)=2*dP t (aZ z u t)*t.w:=wrap_i64 J J;have e7:=b_ (2*dP t (aZ z u t)*t.w) ⟨J,J⟩;rw[show((2*dP t (aZ z u t)*t.w:Int):Rat)=bP z u t by rw[bP,wQ,gW,gW];rfl]at e7;have hdq:HQ (xQ t-fl) 225:=@HQ.sub _ _ 4 220 c2 hflq;have d0:=iP (ofQ (xQ t)) (ofQ fl) (hx:=Vq.ofQ (h:=c2)) (hy:=Vq.ofQ (h:=hflq)) Y Y;have n1:=cy (ofQ (xQ t-fl)) (ofQ (xQ t-fl)) (hx:=Vq.ofQ (h:=hdq)) (hy:=Vq.ofQ (h:=hdq)) Y Y;have n2:=cy (ofQ (bP z u t)) (ofQ ((xQ t-fl)*(xQ t-fl))) (hx:=Vq.ofQ (h:=c6)) (hy:=Vq.ofQ (h:=@HQ.mul _ _ 225 225 hdq hdq)) Y Y;rw[show bP z u t*((xQ t-fl)*(xQ t-fl))=ki z u fl t from O]at n2;have n3:=cJ (ofQ (ap (ki z u fl) (st.take i))) (ofQ (ki z u fl t)) (hx:=Vq.ofQ (h:=s7 i)) (hy:=Vq.ofQ (h:=@HQ.mul _ _ 12 450 c6 (@HQ.mul _ _ 225 225 hdq hdq))) Y Y;rw[<-dE (ki z u fl) hx]at n3;have hw:=fg i;rw[hFL0]at d0;clear s7 hsz c1 c2 c3 c4 c5 c6 hdq;generalize hN1:ofQ (ap (ki z u fl) (st.take (i+1)))=N1 at *
   generalize ofQ (ap (ki z u fl) (st.take i))=O1,ofQ (ki z u fl t)=F1,ofQ ((xQ t-fl)*(xQ t-fl))=DD,ofQ (xQ t-fl)=D1,ofQ (bP z u t)=PL,dP t (aZ z u t)=hh,ofQ (aZ z u t)=Y0,ofQ (xQ t)=X0,ofQ Aq=A0 at *
   refine aQ hx ?_;refine cN 25 ?_;refine am (fp 23) ?_;refine be [(6,23),(7,23)] aK aK ?_;refine G e3 ?_;refine G d0 ?_;refine cN 26 ?_;refine am (fp 24) ?_;refine be [(11,24),(12,24)] aK aK ?_;refine G e1 ?_;refine aj e6 ?_;refine H ?_;rw[r1];refine H ?_;rw[r2];refine G e7 ?_;refine H ?_;refine cd [] [20] 8 [8,9] aK aK ?_;refine G n1 ?_;refine G n2 ?_;refine G n3 ?_;refine H ?_;exact⟨i+1,hlt,J,O,O,O,O,O,O,O,congrArg I hw,O,O,O,O,O,by rw[hN1];rfl,trivial⟩
  have hie:i=st.length:=by have:=aE h;omega
  clear h;subst hie;rw[bb];generalize ofQ (ap (ki z u fl) st)=L0,ofQ Aq=A0 at *
  refine H ?_;refine cd [] [20] 6 [6,7] aK aK ?_;refine G g5 ?_;refine G g6 ?_;exact bW
def R8 (p az at':RR)(g n:Nat)(u b:RR)(h:Bool):List PV:=eR p++(eR az++eR at')++[.als 400 g 0 n]++eR u++eR b++xN++[.bool h,I 0]
set_option maxHeartbeats 16000000 in
theorem EM (d:DKR)(lv:RR){p:Rat}{n:Nat}[hlv:Vq lv p n](hn:n<=1000000)(az at':RR)(v:List Rat)(h38:aO 38 [.agg (cn d),.agg (eR lv)] (.sl ((dU d p).map eS)))(h145:aO 145 [.sl ((dU d p).map eS),.agg (eR az++eR at')] (.sl ((v.map ofQ).map eR)))
  (hv:∀q∈v,hq q 100000) (hvl:d.bl.length<=v.length) (hv64:v.length<=64) (hb0:0<=bB (v.drop d.bl.length)) (T:STQ)
  {nz:Nat} {z:Rat} [hz:Vq az z nz] (hnz:nz<=1000000)
  (hT:bB (v.drop d.bl.length)≠0->∃H0,aO 146 [.agg (fB d.s),.agg (eR (ofQ (z+p))++eR at'),I d.d] (.tup [.agg (FG H0),.bool true])/\aO 147 [.agg (fB d.s),.agg (FG H0),.agg (eR (ofQ (bB (v.take d.bl.length))))] (.agg (DE T))) (hT0:bB (v.drop d.bl.length)=0->T=Ox) :
  aO 79 [.agg (cn d),.agg (eR lv),.agg (eR az++eR at')] (.agg (fk (PG d p ⟨az,at'⟩ v T))):=by
 have zl:=hlv.sz;have e1:=ef lv J J;rw[hlv.val]at e1;have w0:=lN;have e4:=cJ az lv (hx:=hz) (hy:=hlv) J J;have hvt:∀i,∀q∈v.take i,hq q 100000:=fun i q hq=>hv q (d9 hq);have hs1:∀i,hq (bB ((v.take i).take d.bl.length)) 6500000:=fun i=>by
  have:=tk (N:=100000) (l:=(v.take i).take d.bl.length) fun q hq=>hvt i q (d9 hq);refine(HQ.mono (q:=bB ((v.take i).take d.bl.length)) (h:=⟨this⟩) ?_).ok;rw[bw,bw];have:min d.bl.length (min i v.length)<=64:=J;have:=dw (100000+1) this;omega
 have hs2:∀i,hq (bB ((v.take i).drop d.bl.length)) 6500000:=fun i=>by
  have:=tk (N:=100000) (l:=(v.take i).drop d.bl.length) fun q hq=>hvt i q (my hq);refine(HQ.mono (q:=bB ((v.take i).drop d.bl.length)) (h:=⟨this⟩) ?_).ok;rw[gV,bw];have:min i v.length-d.bl.length<=64:=J;have:=dw (100000+1) this;omega
 have hsg:=gu (ofQ (bB (v.drop d.bl.length))) (hx:=Vq.ofQ (h:=⟨by have:=hs2 v.length;rwa [bb]at this⟩)) Y;have hsz:=gy (bB (v.drop d.bl.length));have hsl:=nU (bB (v.drop d.bl.length));have hml:((v.map ofQ).map eR).length=v.length:=ao;have hmb:(d.bl.map eBk).length=d.bl.length:=ao;rw[PG];obtain⟨s,den,bl,zn,gm,oh⟩:=d;simp only at *
 obtain⟨R,hR0,hR1,hRw⟩:∃R,(bB (v.drop bl.length)=0->R=xN)/\(bB (v.drop bl.length)≠0->R=DE T)/\WeakL R (DE T):=by
  by_cases h:bB (v.drop bl.length)=0
  .exact⟨xN,fun _=>rfl,fun g=>absurd h g,by rw[hT0 h];exact xO⟩
  .exact⟨DE T,fun g=>absurd g h,fun _=>rfl,WeakL.refl _⟩
 refine Ret.weak (r' := .agg (eR (ofQ p)++(eR az++eR at')++[.sl (((v.take bl.length).map ofQ).map eR)]++eR (ofQ (bB (v.take bl.length)))++eR (ofQ (bB (v.drop bl.length)))++R++[.bool (eJ bl v),I (kH bl (v.take bl.length) (bB (v.drop bl.length)))])) ?_ (WeakL.refl _) (((WeakL.refl _).app hRw).app (WeakL.refl _)).agg;clear hRw hT0;have hPH:∀P:Int,(pg (nh (bl.take bl.length) (v.take bl.length))).2=P->kH bl (v.take bl.length) (bB (v.drop bl.length))=if P=0 then 0 else if P=1 then 1 else if bB (v.drop bl.length)=0 then 3 else 2:=fun P hP=>by
  rw[bb]at hP;rw[kH,hP]
 generalize hW:(dU ⟨s,den,bl,zn,gm,oh⟩ p).map eS=W at *
 generalize kH bl (v.take bl.length) (bB (v.drop bl.length))=PH at *
 generalize hQp:ofQ p=Qp at *
 generalize hQz:ofQ (z+p)=Qz at *
 clear hW;refine ax Proofs.Tryz.func79 ?_;refine cO 6 [15,16,17,18,19,7] ?_;refine G h38 ?_;refine G h145 ?_;refine H ?_;refine be [(6,8),(7,8)] aK aK ?_;refine G e1 ?_;refine G w0 ?_;refine G w0 ?_;refine cN 6 ?_;refine aT [(3,.ptr 3 1 0 0),(4,.ptr 4 1 0 0),(5,.ptr 5 1 0 0),(6,.ptr 6 1 0 0),(7,.sl ((v.map ofQ).map eR)),(8,.ptr 8 1 0 0),(9,I 0),(10,I 0),(11,I ((0:Nat):Int))] [(3,1,⟨31,14,[cn ⟨s,den,bl,zn,gm,oh⟩],2⟩),(4,1,⟨42,4,[eR lv],2⟩),(5,1,⟨45,8,[eR az++eR at'],2⟩),(6,1,⟨50,39,[Mt],2⟩),(8,1,⟨50,39,[eR Qp++(eR az++eR at')++[.nil]++eR (ofQ 0)++eR (ofQ 0)++xN++[.bool false,I 0]],2⟩)] ⟨O,O,O,O,O,O,O,O,O,O,O,O,O,O,trivial⟩ ?_;intro s0;refine am (Ghost.nilcell (k:=400) (k0:=8) (i:=0) (j:=12) (row:=eR Qp++(eR az++eR at')++[.nil]++eR (ofQ 0)++eR (ofQ 0)++xN++[.bool false,I 0]) 42 4 1 O O O O O O O) ?_;have z0:eJ bl (v.take 0)=false:=by cases bl<;>rfl
 have z1:bB ((v.take 0).take bl.length)=0:=by rw[eu,List.take_nil];rfl
 have z2:bB ((v.take 0).drop bl.length)=0:=by rw[eu,List.drop_nil];rfl
 have z3:min 0 bl.length=0:=Nat.zero_min _;obtain⟨g,hg⟩:∃g,(s0.own 400).1+1=g:=⟨_,O⟩;refine ah (fun i:Nat=>i<=v.length) (fun i=>[(3,.ptr 3 1 0 0),(4,.ptr 4 1 0 0),(5,.ptr 5 1 0 0),(6,.ptr 6 1 0 0),(7,.sl ((v.map ofQ).map eR)),(8,.ptr 8 1 0 0),(9,I (min (pg (nh (bl.take (min i bl.length)) (v.take (min i bl.length)))).2 2)),(10,I (pg (nh (bl.take (min i bl.length)) (v.take (min i bl.length)))).1),(11,I (i:Nat))]) (fun i=>[(3,1,⟨31,14,[cn ⟨s,den,bl,zn,gm,oh⟩],2⟩),(4,1,⟨42,4,[eR lv],2⟩),(5,1,⟨45,8,[eR az++eR at'],2⟩),(6,1,⟨50,39,[Mt],2⟩),(8,1,⟨50,39,[R8 Qp az at' (g+min i bl.length) (((v.take (min i bl.length)).map ofQ).map eR).length (ofQ (bB ((v.take i).take bl.length))) (ofQ (bB ((v.take i).drop bl.length))) (eJ bl (v.take i))],2⟩),(400,g+min i bl.length,⟨42,4,((v.take (min i bl.length)).map ofQ).map eR,1⟩)]) (fun i=>v.length-i) 0 (aP _) ⟨O,O,O,O,O,O,by rw[z3];rfl,by rw[z3];rfl,O,O,O,O,O,by rw[z0,z1,z2,z3,<-hg];rfl,by rw[z3,<-hg];rfl,trivial⟩ ?_;clear z1 z2 z3 hg;intro i s1 hi;refine H ?_;rw[hml];refine aS O ?_ ?_<;>intro h
 .have hlt:i<v.length:=by have:=aB h;omega
  clear h;obtain⟨q,hq⟩:=aC hlt;have hx:(v.map ofQ)[i]? = some (ofQ q):=by rw[bD,hq];rfl
  have hqs:=hv q (bm hq);have sq:=gu (ofQ q) (hx:=Vq.ofQ (h:=⟨hqs⟩)) Y;have hqz:=gy q;have a1:=cJ (ofQ (bB ((v.take i).take bl.length))) (ofQ q) (hx:=Vq.ofQ (h:=⟨hs1 i⟩)) (hy:=Vq.ofQ (h:=⟨hqs⟩)) Y Y;have a2:=cJ (ofQ (bB ((v.take i).drop bl.length))) (ofQ q) (hx:=Vq.ofQ (h:=⟨hs2 i⟩)) (hy:=Vq.ofQ (h:=⟨hqs⟩)) Y Y;have hw:=fg i;have htn:v.take (i+1)=v.take i++[q]:=bS hq;have hil:(v.take i).length=i:=by rw[bw];omega
  refine H ?_;rw[hmb];refine aS O ?_ ?_<;>intro h
  .have hin:bl.length<=i:=by have:=aB h;omega
   clear h;have hj:min (i+1) bl.length=min i bl.length:=J;have hu:bB ((v.take (i+1)).take bl.length)=bB ((v.take i).take bl.length):=by rw[htn,FY J]
   have hb:bB ((v.take (i+1)).drop bl.length)=bB ((v.take i).drop bl.length)+q:=by rw[htn,z6 J,l_]
   have hh:eJ bl (v.take (i+1))=eJ bl (v.take i):=by rw[ky J,ky hin]
   generalize bB ((v.take i).take bl.length)=U,bB ((v.take i).drop bl.length)=Bq,eJ bl (v.take i)=H0 at *
   generalize hB2:ofQ (Bq+q)=B2 at *
   generalize hU1:ofQ U=U1 at *
   generalize ofQ Bq=B1 at *
   refine cN 9 ?_;refine cd [] [8] 7 [7,8] aK aK ?_;refine aQ hx ?_;refine G a2 ?_;refine H ?_;exact⟨i+1,hlt,J,O,O,O,O,O,O,by rw[hj];rfl,by rw[hj];rfl,congrArg I hw,O,O,O,O,by rw[hj,hu,hb,hh,hU1,hB2];rfl,by rw[hj];rfl,trivial⟩
  .have hin:i<bl.length:=by have:=aE h;omega
   clear h;obtain⟨c,hc⟩:=aC hin;have hj:min (i+1) bl.length=i+1:=J;have hj0:min i bl.length=i:=J;have hu:bB ((v.take (i+1)).take bl.length)=bB ((v.take i).take bl.length)+q:=by rw[htn,show(v.take i++[q]).take bl.length=v.take i++[q] from cV (by rw[bI,hil];exact hin),show(v.take i).take bl.length=v.take i from cV J,l_]
   have hb:bB ((v.take (i+1)).drop bl.length)=bB ((v.take i).drop bl.length):=by rw[htn,show(v.take i++[q]).drop bl.length=[] from pZ (by rw[bI,hil];exact hin),show(v.take i).drop bl.length=[] from pZ J]
   have hh:=pQ hc hq;have hsn:=ww hc hq;have hple:=KR (nh (bl.take i) (v.take i));have hph:=CF (nh (bl.take i) (v.take i)) c.x;rw[lJ]at hph;have hrow:((v.take (i+1)).map ofQ).map eR=((v.take i).map ofQ).map eR++[eR (ofQ q)]:=by rw[htn,bc,bc];rfl
   have hgj:g+(i+1)=g+i+1:=O;have hFl:(((v.take i).map ofQ).map eR).length<=64:=by rw[aR,aR,bw];omega
   rw[hj0];generalize nh (bl.take i) (v.take i)=A at *
   generalize hAn:(pg A).2=P at *
   generalize hAx:(pg A).1=X at *
   generalize bB ((v.take i).take bl.length)=U,bB ((v.take i).drop bl.length)=Bq,eJ bl (v.take i)=H0,((v.take i).map ofQ).map eR=FL at *
   generalize hU2:ofQ (U+q)=U2 at *
   generalize ofQ U=U1 at *
   generalize hB1:ofQ Bq=B1 at *
   generalize sgn q=g1,ofQ q=qq at *
   refine cN 10 ?_;refine cd [51,400] [8] 8 [6,7,8,9] aK aK ?_;refine aQ hx ?_;refine H ?_;refine lr O O O (aY 1 O O O O O O O O O O O aH O ⟨gZ O,?_⟩);refine H ?_;refine lr O O O (bJ 1 O O O O O O O O O O O aH (by intro row hr;first|(simp at hr;subst hr;rfl)|(simp at hr;obtain⟨_,_,rfl⟩:=hr;rfl)|simp at hr) O O aV aV ⟨gZ O,?_⟩);refine cN 11 ?_;refine cd [] [8] 7 [7,8] aK aK ?_;refine aQ hx ?_;refine G a1 ?_;refine aQ hx ?_;refine aj sq ?_;refine H ?_;by_cases hq0:q=0
   .rw[decide_eq_true (hqz.2 hq0)];refine H ?_;rw[if_neg (by simp[hq0]),b8]at hsn;rw[decide_eq_false (by simp[hq0]),iU,kY]at hh;refine⟨i+1,hlt,J,O,O,O,O,O,O,?_,?_,congrArg I hw,O,O,O,O,?_,?_,trivial⟩
    .rw[hj,hsn,hAn];rfl
    .rw[hj,hsn,hAx];rfl
    .rw[hj,hu,hb,hh,hrow,hgj,hU2,hB1];rfl
    .rw[hj,hrow,hgj];rfl
   .rw[decide_eq_false (fun e=>hq0 (hqz.1 e))];refine H ?_;rw[if_pos hq0]at hsn;have hat0:(pg (A++[c.x])).1=c.x:=by
     rw[hph];split
     .rfl
     .rename_i hn;rw[hAx];exact(Classical.not_not.1 fun e=>hn (.inr e)).symm
    have h4:P=0\/(P=1/\c.x=X)\/(P=1/\c.x≠X)\/2<=P:=J;cases H0 with
    |true =>
     rw[ip]at hh;refine H ?_;rcases h4 with hP|hP|hP|hP
     .rw[decide_eq_true (show min P 2=0 by omega)];refine H ?_;have hn0:min (pg (A++[c.x])).2 2=IntKind.i64.wrap (min P 2+1):=by rw[hph,if_pos (Or.inl hP),wrap_i64 J J];show min (P+1) 2=_;omega
      refine tK O O O O O O O hc O ?_;refine H ?_;refine⟨i+1,hlt,J,O,O,O,O,O,O,?_,?_,congrArg I hw,O,O,O,O,?_,?_,trivial⟩
      .rw[hj,hsn,hn0];rfl
      .rw[hj,hsn,hat0];rfl
      .rw[hj,hu,hb,hh,hrow,hgj,hU2,hB1];rfl
      .rw[hj,hrow,hgj];rfl
     .rw[decide_eq_false (show ¬min P 2=0 by omega)];refine H ?_;rw[decide_eq_true (show min P 2=1 by omega)];refine aQ hc ?_;refine H ?_;rw[decide_eq_true hP.2];refine H ?_;have hn0:min (pg (A++[c.x])).2 2=min P 2:=by rw[hph,if_neg (by rintro(h|h);(· omega);(· exact h hP.2)),hAn]
      refine tK O O O O O O O hc O ?_;refine H ?_;refine⟨i+1,hlt,J,O,O,O,O,O,O,?_,?_,congrArg I hw,O,O,O,O,?_,?_,trivial⟩
      .rw[hj,hsn,hn0];rfl
      .rw[hj,hsn,hat0];rfl
      .rw[hj,hu,hb,hh,hrow,hgj,hU2,hB1];rfl
      .rw[hj,hrow,hgj];rfl
     .rw[decide_eq_false (show ¬min P 2=0 by omega)];refine H ?_;rw[decide_eq_true (show min P 2=1 by omega)];refine aQ hc ?_;refine H ?_;rw[decide_eq_false hP.2];refine H ?_;have hn0:min (pg (A++[c.x])).2 2=IntKind.i64.wrap (min P 2+1):=by rw[hph,if_pos (Or.inr hP.2),wrap_i64 J J];show min (P+1) 2=_;omega
      refine tK O O O O O O O hc O ?_;refine H ?_;refine⟨i+1,hlt,J,O,O,O,O,O,O,?_,?_,congrArg I hw,O,O,O,O,?_,?_,trivial⟩
      .rw[hj,hsn,hn0];rfl
      .rw[hj,hsn,hat0];rfl
      .rw[hj,hu,hb,hh,hrow,hgj,hU2,hB1];rfl
      .rw[hj,hrow,hgj];rfl
     .rw[decide_eq_false (show ¬min P 2=0 by omega)];refine H ?_;rw[decide_eq_false (show ¬min P 2=1 by omega)];refine H ?_;have hn0:min (pg (A++[c.x])).2 2=min P 2:=by
       rw[hph];split
       .show min (P+1) 2=_;omega
       .rw[hAn]
      refine tK O O O O O O O hc O ?_;refine H ?_;refine⟨i+1,hlt,J,O,O,O,O,O,O,?_,?_,congrArg I hw,O,O,O,O,?_,?_,trivial⟩
      .rw[hj,hsn,hn0];rfl
      .rw[hj,hsn,hat0];rfl
      .rw[hj,hu,hb,hh,hrow,hgj,hU2,hB1];rfl
      .rw[hj,hrow,hgj];rfl
    |false =>
     rw[jK,decide_eq_true hq0,Bool.and_true]at hh;refine aQ hc ?_;refine H ?_;rcases h4 with hP|hP|hP|hP
     .rw[decide_eq_true (show min P 2=0 by omega)];refine H ?_;have hn0:min (pg (A++[c.x])).2 2=IntKind.i64.wrap (min P 2+1):=by rw[hph,if_pos (Or.inl hP),wrap_i64 J J];show min (P+1) 2=_;omega
      refine tK O O O O O O O hc O ?_;refine H ?_;refine⟨i+1,hlt,J,O,O,O,O,O,O,?_,?_,congrArg I hw,O,O,O,O,?_,?_,trivial⟩
      .rw[hj,hsn,hn0];rfl
      .rw[hj,hsn,hat0];rfl
      .rw[hj,hu,hb,hh,hrow,hgj,hU2,hB1];rfl
      .rw[hj,hrow,hgj];rfl
     .rw[decide_eq_false (show ¬min P 2=0 by omega)];refine H ?_;rw[decide_eq_true (show min P 2=1 by omega)];refine aQ hc ?_;refine H ?_;rw[decide_eq_true hP.2];refine H ?_;have hn0:min (pg (A++[c.x])).2 2=min P 2:=by rw[hph,if_neg (by rintro(h|h);(· omega);(· exact h hP.2)),hAn]
      refine tK O O O O O O O hc O ?_;refine H ?_;refine⟨i+1,hlt,J,O,O,O,O,O,O,?_,?_,congrArg I hw,O,O,O,O,?_,?_,trivial⟩
      .rw[hj,hsn,hn0];rfl
      .rw[hj,hsn,hat0];rfl
      .rw[hj,hu,hb,hh,hrow,hgj,hU2,hB1];rfl
      .rw[hj,hrow,hgj];rfl
     .rw[decide_eq_false (show ¬min P 2=0 by omega)];refine H ?_;rw[decide_eq_true (show min P 2=1 by omega)];refine aQ hc ?_;refine H ?_;rw[decide_eq_false hP.2];refine H ?_;have hn0:min (pg (A++[c.x])).2 2=IntKind.i64.wrap (min P 2+1):=by rw[hph,if_pos (Or.inr hP.2),wrap_i64 J J];show min (P+1) 2=_;omega
      refine tK O O O O O O O hc O ?_;refine H ?_;refine⟨i+1,hlt,J,O,O,O,O,O,O,?_,?_,congrArg I hw,O,O,O,O,?_,?_,trivial⟩
      .rw[hj,hsn,hn0];rfl
      .rw[hj,hsn,hat0];rfl
      .rw[hj,hu,hb,hh,hrow,hgj,hU2,hB1];rfl
      .rw[hj,hrow,hgj];rfl
     .rw[decide_eq_false (show ¬min P 2=0 by omega)];refine H ?_;rw[decide_eq_false (show ¬min P 2=1 by omega)];refine H ?_;have hn0:min (pg (A++[c.x])).2 2=min P 2:=by
       rw[hph];split
       .show min (P+1) 2=_;omega
       .rw[hAn]
      refine tK O O O O O O O hc O ?_;refine H ?_;refine⟨i+1,hlt,J,O,O,O,O,O,O,?_,?_,congrArg I hw,O,O,O,O,?_,?_,trivial⟩
      .rw[hj,hsn,hn0];rfl
      .rw[hj,hsn,hat0];rfl
      .rw[hj,hu,hb,hh,hrow,hgj,hU2,hB1];rfl
      .rw[hj,hrow,hgj];rfl
 have hie:i=v.length:=by have:=aE h;omega
 clear h;subst hie;have hmn:min v.length bl.length=bl.length:=J;simp only[hmn,bb];refine am (Ghost.freezeD (k:=400) (k0:=8) (i:=0) (j:=12) (row:=R8 Qp az at' (g+bl.length) (((v.take bl.length).map ofQ).map eR).length (ofQ (bB (v.take bl.length))) (ofQ (bB (v.drop bl.length))) (eJ bl v)) O O O O O O O O) ?_;have hple:=KR (nh bl (v.take bl.length));simp only[bb]at hPH;have hPP:=hPH _ O;generalize (pg (nh bl (v.take bl.length))).2=P,(pg (nh bl (v.take bl.length))).1=X,((v.take bl.length).map ofQ).map eR=FL,ofQ (bB (v.take bl.length))=U0,eJ bl v=HL at *
 clear hs1 hs2 hv hvt;generalize bB (v.drop bl.length)=bq at *
 generalize ofQ bq=B0,sgn bq=sg at *
 clear hPH;refine aT [(3,.ptr 3 1 0 0),(4,.ptr 4 1 0 0),(5,.ptr 5 1 0 0),(6,.ptr 6 1 0 0),(8,.ptr 8 1 0 0),(9,I (min P 2))] [(3,1,⟨31,14,[cn ⟨s,den,bl,zn,gm,oh⟩],2⟩),(4,1,⟨42,4,[[.bool lv.n.neg,.sl (lv.n.l.map eU),.bool lv.d.neg,.sl (lv.d.l.map eU)]],2⟩),(5,1,⟨45,8,[[.bool az.n.neg,.sl (az.n.l.map eU),.bool az.d.neg,.sl (az.d.l.map eU),.bool at'.n.neg,.sl (at'.n.l.map eU),.bool at'.d.neg,.sl (at'.d.l.map eU)]],2⟩),(6,1,⟨50,39,[[.bool false,.nil,.bool false,.nil,.bool false,.nil,.bool false,.nil,.bool false,.nil,.bool false,.nil,.nil,.bool false,.nil,.bool false,.nil,.bool false,.nil,.bool false,.nil,.bool false,.nil,.bool false,.nil,.bool false,.nil,.bool false,.nil,.bool false,.nil,.bool false,.nil,.bool false,.nil,.bool false,.nil,.bool false,I 0]],2⟩),(8,1,⟨50,39,[[.bool Qp.n.neg,.sl (Qp.n.l.map eU),.bool Qp.d.neg,.sl (Qp.d.l.map eU),.bool az.n.neg,.sl (az.n.l.map eU),.bool az.d.neg,.sl (az.d.l.map eU),.bool at'.n.neg,.sl (at'.n.l.map eU),.bool at'.d.neg,.sl (at'.d.l.map eU),.sl FL,.bool U0.n.neg,.sl (U0.n.l.map eU),.bool U0.d.neg,.sl (U0.d.l.map eU),.bool B0.n.neg,.sl (B0.n.l.map eU),.bool B0.d.neg,.sl (B0.d.l.map eU),.bool false,.nil,.bool false,.nil,.bool false,.nil,.bool false,.nil,.bool false,.nil,.bool false,.nil,.bool false,.nil,.bool false,.nil,.bool HL,I 0]],2⟩)] ⟨O,O,O,O,O,O,O,O,O,O,O,trivial⟩ ?_;intro s9;refine aj hsg ?_;refine H ?_;by_cases hb:bq=0
 .rw[decide_eq_false (show ¬0<sg by have:=hsz.2 hb;omega),hR0 hb];refine H ?_;rcases(show P=0\/P=1\/2<=P by omega) with hP|hP|hP
  .rw[decide_eq_true (show min P 2=0 by omega)];refine H ?_;have hPe:PH=0:=by rw[hPP];rw[if_pos hP]
   rw[hPe];exact JH O O O
  .rw[decide_eq_false (show ¬min P 2=0 by omega)];refine H ?_;rw[decide_eq_true (show min P 2=1 by omega)];refine H ?_;have hPe:PH=1:=by rw[hPP];rw[if_neg J,if_pos hP]
   rw[hPe];exact JH O O O
  .rw[decide_eq_false (show ¬min P 2=0 by omega)];refine H ?_;rw[decide_eq_false (show ¬min P 2=1 by omega)];refine H ?_;have hPe:PH=3:=by rw[hPP];rw[if_neg J,if_neg J,if_pos hb]
   rw[hPe];exact JH O O O
 .obtain⟨HH,t1,t2⟩:=hT hb;have hsp:0<sg:=by
   by_cases h:0<sg
   .exact h
   .have h1:=hsl.1 J;exact absurd (show bq=0 by grind) hb
  rw[decide_eq_true hsp,hR1 hb];refine H ?_;rcases(show P=0\/P=1\/2<=P by omega) with hP|hP|hP
  .rw[decide_eq_true (show min P 2=0 by omega)];refine H ?_;have hPe:PH=0:=by rw[hPP];rw[if_pos hP]
   rw[hPe];refine fT [(15,13),(16,13)] aK aK ?_;refine G e4 ?_;refine G t1 ?_;refine H ?_;refine GW O O O O O ?_;refine Fi 2 O O O O O O (fun _=>rfl) aH O O O O ?_;refine G t2 ?_;exact bW
  .rw[decide_eq_false (show ¬min P 2=0 by omega)];refine H ?_;rw[decide_eq_true (show min P 2=1 by omega)];refine H ?_;have hPe:PH=1:=by rw[hPP];rw[if_neg J,if_pos hP]
   rw[hPe];refine fT [(15,13),(16,13)] aK aK ?_;refine G e4 ?_;refine G t1 ?_;refine H ?_;refine GW O O O O O ?_;refine Fi 2 O O O O O O (fun _=>rfl) aH O O O O ?_;refine G t2 ?_;exact bW
  .rw[decide_eq_false (show ¬min P 2=0 by omega)];refine H ?_;rw[decide_eq_false (show ¬min P 2=1 by omega)];refine H ?_;have hPe:PH=2:=by rw[hPP];rw[if_neg J,if_neg J,if_neg hb]
   rw[hPe];refine fT [(15,13),(16,13)] aK aK ?_;refine G e4 ?_;refine G t1 ?_;refine H ?_;refine GW O O O O O ?_;refine Fi 2 O O O O O O (fun _=>rfl) aH O O O O ?_;refine G t2 ?_;exact bW
end Go.Pv
