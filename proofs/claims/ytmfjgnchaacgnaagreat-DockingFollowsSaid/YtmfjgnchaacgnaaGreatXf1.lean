/- Texts of one hand, gathered: DlK, DlO, DlP, DlR. -/
import Derived.Test.YtmfjgnchaacgnaaGreatBa6
set_option maxRecDepth 20000
set_option linter.unusedSectionVars false
set_option linter.unusedSimpArgs false
set_option linter.unusedVariables false
set_option linter.unnecessarySimpa false
set_option maxHeartbeats 2000000
namespace Go.Pv
attribute [local irreducible] PWP POps PQuiet PSem aF aw ai ak
open Go.Proofs
theorem u6 {d:DKR}(hl:d.Len)(hS:IB d=true)(hE:gF d=0){p:Rat}(hp:hq p 4):Slim d p:=by
 have sm:=De hS;obtain⟨hk,-,-⟩:=JC (sm.ok hl) hE;simp only[IB,Sa,Pg,QG,ca,lG,decide_eq_false_iff_not,cm]at hS;obtain⟨⟨⟨⟨⟨h1,h2⟩,-⟩,h3⟩,h4⟩,-⟩:=hS;have hn:=hk.n;have hm:=hk.m;refine⟨sm.ok hl,hE,J,J,fun t ht=>?_,sm.b,hp⟩;have:=h2 t ht;simp only[EW,lG,decide_eq_false_iff_not]at this;have:=(hk.st t ht).n;omega
theorem Ju:dZ.Le:=⟨IY,IY,IY,aP _,(fun r hr=>by cases hr),IY,IY,⟨IY,IY,IY,IY⟩⟩
def mL (f:Int->DQ × Int)(w:Int):Int:=if aG w (-100000) 100000=true then(f w).2 else 2
def sB (f:Int->DQ × Int)(c:List Int):Int:=gQ c fun _ w=>mL f w
def iG (f:Int->DQ × Int)(c:List Int):List DQ:=c.map fun w=>(f w).1
def lT (f:Int->DQ × Int)(d:DKR)(c:List Int):List DQ × Int :=
 if gF d=0 then(if c.length<=200 then(if sB f c=0 then(iG f c,0) else([],sB f c)) else([],8)) else([],gF d)
theorem y_ {f:Int->DQ × Int}{c:List Int}{i:Nat}{w:Int}(h:c[i]? = some w):iG f (c.take (i+1))=iG f (c.take i)++[(f w).1]:=by
 obtain⟨hl,rfl⟩:=bV h;rw[iG,iG,ui hl,bc];rfl
theorem Eb {c:List Int}{i:Nat}{w:Int}(h:c[i]? = some w):w∈c:=bm h
theorem Ea (d:DKR)(hk:aO 17 [.agg (cn d)] (I (gF d)))(c:List Int)(hl:c.length<=210)(f:Int->DQ × Int)
  (hf:gF d=0->∀w∈c,aG w (-100000) 100000=true->aO 74 [.agg (cn d),.agg (eR (ofQ (w:Rat)))] (.tup [.agg (fk (f w).1),I (f w).2])) :
  aO 43 [.agg (cn d),.sl (c.map eN)] (.tup [.sl ((lT f d c).1.map fk),I (lT f d c).2]):=by
 have hml:(c.map eN).length=c.length:=ao;by_cases hE:gF d=0
 .specialize hf hE;by_cases hc:c.length<=200
  .obtain⟨V,hV⟩:∃V,V=lT f d c:=⟨_,O⟩;have hv:V=if sB f c=0 then(iG f c,0) else([],sB f c):=by rw[hV,lT,if_pos hE,if_pos hc]
   rw[<-hV];clear hV;rw[hE]at hk;clear hE;obtain⟨s,den,bl,zn,gm,oh⟩:=d;refine ax Proofs.Tryz.func43 ?_;refine aj hk ?_;refine H ?_;rw[hml];rw[decide_eq_false (show ¬(200:Int)<(c.length:Int) by omega)];refine cN 7 ?_;refine am (Ghost.nilreg (k:=1003) (t:=7) 50 39 1 O O) ?_;refine H ?_;rw[hml];refine aT [(2,.ptr 2 1 0 0),(7,.als 1003 1 0 0),(20,.sl (c.map eN)),(21,I c.length),(22,I ((0:Nat):Int))] [(2,1,⟨31,14,[cn ⟨s,den,bl,zn,gm,oh⟩],2⟩),(1003,1,⟨50,39,[],1⟩)] ⟨O,O,O,O,O,O,O,trivial⟩ ?_;intro s0;refine ah (ClearE c fun _ w=>mL f w) (fun i=>[(2,.ptr 2 1 0 0),(7,.als 1003 (1+i) 0 ((iG f (c.take i)).map fk).length),(20,.sl (c.map eN)),(21,I c.length),(22,I (i:Nat))])
    (fun i=>[(2,1,⟨31,14,[cn ⟨s,den,bl,zn,gm,oh⟩],2⟩),(1003,1+i,⟨50,39,(iG f (c.take i)).map fk,1⟩)]) (fun i=>c.length-i) 0 .zero' ⟨O,O,O,O,O,O,O,trivial⟩ ?_
   intro i s1 hi;refine D ?_ ?_<;>intro h
   .have hlt:i<c.length:=by have:=aB h;omega
    clear h;obtain⟨w,hx⟩:=aC hlt;have o1:=cU w (-100000) 100000;have hw:=fg i;refine aQ hx ?_;refine aj o1 ?_;refine H ?_;cases hin:aG w (-100000) 100000 with
    |false =>
     have he:mL f w=2:=by rw[mL,hin];rfl
     have hF:=hi.found hx he Y;rw[show gQ c (fun _ w=>mL f w)=sB f c from O]at hF;rw[hF,if_neg Y]at hv;subst hv
     (repeat ((fail_if_success (with_reducible refine da ?_));refine qy O ?_))
     refine am (Ghost.nilfs (t:=4) O) ?_;exact bW
    |true =>
     have hin2:=ej hin;have hwh:=jd w ⟨J,J⟩;have hst:=hf w (Eb hx) hin;have he:mL f w=(f w).2:=by rw[mL,if_pos hin]
     have hrow:=y_ (f:=f) hx;have hll:((iG f (c.take i)).map fk).length<=200:=by rw[aR,iG,aR,bw];omega
     have hb:1+(i+1)=1+i+1:=O;generalize ofQ (w:Rat)=W at *
     generalize hx1:(f w).1=x at *
     generalize hx2:(f w).2=e at *
     obtain⟨xlv,⟨az,at'⟩,xF,xup,xbu,⟨x1,x2,x3,x4⟩,xh,xp⟩:=x;generalize hR:(iG f (c.take i)).map fk=R at *
     refine cN 12 ?_;refine am (fp 10) ?_;refine be [(7,10),(8,10)] aK aK ?_;refine G hwh ?_;refine G hst ?_;refine H ?_;by_cases h0:e=0
     .subst h0;refine H ?_;refine ay (aY 1 O O O O O O O O O O O aH O ?_);refine H ?_;refine ay (bJ 1 O O O O O O O O O O O aH (by intro row hr;first|(simp at hr;subst hr;rfl)|simp at hr) O O aV aV ?_);refine H ?_;have hr2:(iG f (c.take (i+1))).map fk=R++[fk ⟨xlv,⟨az,at'⟩,xF,xup,xbu,⟨x1,x2,x3,x4⟩,xh,xp⟩]:=by rw[hrow,bc,hR];rfl
      refine⟨i+1,hi.succ hx he,J,O,?_,O,O,congrArg I hw,O,?_,trivial⟩
      .rw[hr2,hb];rfl
      .rw[hr2,hb];rfl
     .rw[decide_eq_false h0];have hF:=hi.found hx he h0;rw[show gQ c (fun _ w=>mL f w)=sB f c from O]at hF;rw[hF,if_neg h0]at hv;subst hv
      (repeat ((fail_if_success (with_reducible refine da ?_));refine qy O ?_))
      refine am (Ghost.nilfs (t:=4) O) ?_;exact bW
   .have hge:¬i<c.length:=by have:=aE h;omega
    clear h;have hF:=hi.none hge;rw[show gQ c (fun _ w=>mL f w)=sB f c from O]at hF;rw[hF,if_pos O]at hv;subst hv;have hie:i=c.length:=by have:=hi.1;omega
    subst hie;rw[bb]
    (repeat ((fail_if_success (with_reducible refine da ?_));refine qy O ?_))
    refine am (Ghost.takeD (k:=1003) (t:=4) O O O) ?_;exact bW
  .have e:lT f d c=([],8):=by rw[lT,if_pos hE,if_neg hc]
   rw[e];rw[hE]at hk;clear hf e;obtain⟨s,den,bl,zn,gm,oh⟩:=d;refine ax Proofs.Tryz.func43 ?_;refine aj hk ?_;refine H ?_;rw[hml];rw[decide_eq_true (show(200:Int)<(c.length:Int) by omega)]
   (repeat ((fail_if_success (with_reducible refine da ?_));refine qy O ?_))
   refine am (Ghost.nilfs (t:=4) O) ?_;exact bW
 .have e:lT f d c=([],gF d):=by rw[lT,if_neg hE]
  rw[e];clear hf e;generalize gF d=E at *
  obtain⟨s,den,bl,zn,gm,oh⟩:=d;refine ax Proofs.Tryz.func43 ?_;refine aj hk ?_;refine H ?_;rw[decide_eq_false hE]
  (repeat ((fail_if_success (with_reducible refine da ?_));refine qy O ?_))
  refine am (Ghost.nilfs (t:=4) O) ?_;exact bW
def lX (l:List DQ):Nat->Nat
 |0=>0
 |k+1=>if (l[k]?.map (·.ph))=some 0 then lX l k else k+1
theorem zV (l:List DQ):∀k,lX l k<=k
 |0=>a_
 |k+1=>by
  rw[lX];split
  .have:=zV l k;omega
  .exact a_
def lg (V:List DQ × Int):Int × Int:=if V.2=0 then(if lX V.1 V.1.length=V.1.length then(0,29) else(((lX V.1 V.1.length:Nat):Int),0)) else(0,V.2)
theorem Kn (d:DKR)(c:List Int)(V:List DQ × Int)(hV:V.1.length<=1000)(h:aO 43 [.agg (cn d),.sl (c.map eN)] (.tup [.sl (V.1.map fk),I V.2])) :
  aO 45 [.agg (cn d),.sl (c.map eN)] (.tup [I (lg V).1,I (lg V).2]):=by
 have hml:(V.1.map fk).length=V.1.length:=ao;have hz:lg V=if V.2=0 then(if lX V.1 V.1.length=V.1.length then(0,29) else(((lX V.1 V.1.length:Nat):Int),0)) else(0,V.2):=O
 generalize lg V=Z at *
 obtain⟨l,e⟩:=V;simp only at *
 obtain⟨s,den,bl,zn,gm,oh⟩:=d;by_cases he:e=0
 .subst he;rw[if_pos O]at hz;refine ax Proofs.Tryz.func45 ?_;refine G h ?_;refine H ?_;rw[hml];refine aT [(6,.sl (l.map fk)),(8,I (l.length:Nat))] [] ⟨O,O,trivial⟩ ?_;intro s0;refine ah (fun k:Nat=>k<=l.length/\lX l k=lX l l.length) (fun k=>[(6,.sl (l.map fk)),(8,I (k:Nat))]) (fun _=>[]) (fun k=>k) l.length ⟨a_,O⟩ ⟨O,O,trivial⟩ ?_;rintro k s1 ⟨hk,hq⟩;rcases k with _ | k
  .rw[<-hq,lX]at hz;refine H ?_;rw[hml];refine aS O ?_ ?_<;>intro h
   .rw[if_pos (by have:=aB h;omega)]at hz;subst hz;exact bW
   .rw[if_neg (by have:=aE h;omega)]at hz;subst hz;exact bW
  .obtain⟨x,hx⟩:=aC (show k<l.length by omega);have hsub:IntKind.i64.wrap (((k+1:Nat):Int)-1)=((k:Nat):Int):=by rw[wrap_i64 J J];omega
   rw[lX,hx]at hq;simp only[c9,bg]at hq;obtain⟨xlv,xa,xF,xup,xbu,xs,xh,xp⟩:=x;simp only at hq;refine H ?_;try rw[decide_eq_true (show(0:Int)<((k+1:Nat):Int) by omega)]
   refine H ?_;rw[hsub];refine tK O O O O O O O hx O ?_;refine D ?_ ?_<;>intro h
   .have hp:xp=0:=by simpa using h
    clear h;rw[if_pos hp]at hq;refine H ?_;rw[hsub];exact⟨k,⟨J,hq⟩,J,O,O,trivial⟩
   .have hp:¬xp=0:=by simpa using h
    clear h;rw[if_neg hp]at hq;rw[<-hq]at hz;refine H ?_;rw[hml];refine aS O ?_ ?_<;>intro h
    .rw[if_pos (by have:=aB h;omega)]at hz;subst hz;exact bW
    .rw[if_neg (by have:=aE h;omega)]at hz;subst hz;exact bW
 .rw[if_neg he]at hz;subst hz;refine ax Proofs.Tryz.func45 ?_;refine G h ?_;refine H ?_;rw[decide_eq_false he];exact bW
theorem BZ (n:Int):aO 46 [I n] (.bool (!aG n (-100000) 100000)):=by
 refine ax Proofs.Tryz.func46 ?_;refine eW ?_ ?_<;>intro h
 .have h1:=aB h;refine H ?_;exact fj O O (by simp[aG];omega)
 .have h1:=aE h;refine H ?_;exact fj O O (by rw[aG,decide_eq_true (show -100000<=n by omega),io,<-decide_not];exact congrArg PV.bool (decide_eq_decide.2 J))
theorem dec_Crs {c:PV}(h:argW lay.get 92 c):∃l:List Int,c = .sl (l.map eN)/\l.length<=9223372036854775807:=by
 obtain⟨l,e,hl,-⟩:=vN (n:=10) (show oU lay.get 12 92 [c] from h);cases e;exact⟨l,O,hl⟩
def zU (l:List DQ)(i:Nat):Int:=if lX l i=i then -1 else((lX l i:Nat):Int)
theorem sG {l:List DQ}{i:Nat}{x:DQ}(hx:l[i]? = some x):lX l (i+1)=if x.ph=0 then lX l i else i+1:=by
 rw[lX,hx];simp only[c9,bg]
theorem Ng {l:List DQ}{i:Nat}{x:DQ}(hx:l[i]? = some x)(hp:¬x.ph=0):zU l (i+1) = -1:=by
 rw[zU,sG hx,if_neg hp,if_pos O]
theorem HM {l:List DQ}{i:Nat}{x:DQ}(hx:l[i]? = some x)(hp:x.ph=0)(h:zU l i<0):zU l (i+1)=(i:Nat):=by
 have hle:=zV l i;rw[zU]at h;rw[zU,sG hx,if_pos hp,if_neg J];split at h<;>omega
theorem Kl {l:List DQ}{i:Nat}{x:DQ}(hx:l[i]? = some x)(hp:x.ph=0)(h:¬zU l i<0):zU l (i+1)=zU l i:=by
 have hle:=zV l i;rw[zU]at h;rw[zU,zU,sG hx,if_pos hp,if_neg J];split at h
 .omega
 .rename_i hn;rw[if_neg hn]
theorem HK {d:DKR}(hl:d.Len)(hS:IB d=true)(hE:gF d=0):∃f:Int->DQ × Int,∀w:Int,aG w (-100000) 100000=true ->
  aO 74 [.agg (cn d),.agg (eR (ofQ (w:Rat)))] (.tup [.agg (fk (f w).1),I (f w).2])/\aO 23 [.agg (cn d),.agg (eR (ofQ (w:Rat)))] (.tup [.agg (fk (f w).1),I (f w).2,.bool true])/\aO 22 [.agg (fk (f w).1),.agg (fk (f w).1)] (.bool true):=by
 have key:∀w:Int,∃p:DQ × Int,aG w (-100000) 100000=true ->
   aO 74 [.agg (cn d),.agg (eR (ofQ (w:Rat)))] (.tup [.agg (fk p.1),I p.2])/\aO 23 [.agg (cn d),.agg (eR (ofQ (w:Rat)))] (.tup [.agg (fk p.1),I p.2,.bool true])/\aO 22 [.agg (fk p.1),.agg (fk p.1)] (.bool true):=by
  intro w;by_cases hin:aG w (-100000) 100000=true
  .obtain⟨ha,hb⟩:=ej hin;have zw:Zb w:=aJ J J;have hq4:hq (w:Rat) 4:=HQ.int.ok;have v:Vq (ofQ (w:Rat)) (w:Rat) 4:=Vq.ofQ (h:=⟨hq4⟩);have h1:Slim d (w:Rat):=u6 hl hS hE hq4;have ev:(ofQ (w:Rat)).val=(w:Rat):=ofQ_val _;have h2:Slim d (ofQ (w:Rat)).val:=by rw[ev];exact h1
   have hsz:(ofQ (w:Rat)).sz 4:=fF hq4;by_cases he:(eQ (dB d (w:Rat))).e=0
   .obtain⟨z,t,hs⟩:=L5 h1 he;have r:=qx hl h2 hsz (z:=z) (t:=t) (by rw[ev];exact hs);rw[ev]at r;exact⟨(I7 d (w:Rat) z t,0),fun _=>⟨Ef (hlv:=v) Y hl h1 hs,r,kN _ (LW h1 hs)⟩⟩
   .have r:=qw h2 hsz (by rw[ev];exact he);rw[ev]at r;exact⟨(dZ,(eQ (dB d (w:Rat))).e),fun _=>⟨Ee (hlv:=v) Y hl h1 he,r,kN _ Ju⟩⟩
  .exact⟨(dZ,0),fun h=>absurd h hin⟩
 exact⟨fun w=>Classical.choose (key w),fun w=>ut (key w)⟩
set_option maxHeartbeats 4000000 in
theorem follows_law (d:DKR)(hl:d.Len)(c:List Int)(hcl:c.length<=9223372036854775807):aO 9 [.agg (cn d),.sl (c.map eN)] (.bool true):=by
 have a:=mb;have s:=u7 d;have hml:(c.map eN).length=c.length:=ao;cases hS:IB d with
 |false =>
  rw[hS]at s;refine ax Proofs.Tryz.func9 ?_;refine aj a ?_;refine aj s ?_;exact fC
 |true =>
 rw[hS]at s;by_cases hbig:210<c.length
 .refine ax Proofs.Tryz.func9 ?_;refine aj a ?_;refine aj s ?_;refine H ?_;rw[hml,decide_eq_true (show(4:Int)<(c.length:Int) by omega)];refine H ?_;rw[hml,decide_eq_false (show ¬(c.length:Int)<=200 by omega)];refine H ?_;rw[hml,decide_eq_true (show(210:Int)<(c.length:Int) by omega)];exact fC
 by_cases hmid:4<c.length/\c.length<=200
 .refine ax Proofs.Tryz.func9 ?_;refine aj a ?_;refine aj s ?_;refine H ?_;rw[hml,decide_eq_true (show(4:Int)<(c.length:Int) by omega)];refine H ?_;rw[hml,decide_eq_true (show(c.length:Int)<=200 by omega)];exact fC
 have sm:=De hS;have ok:=sm.ok hl;have cp:=ox d sm;have ci:=(lQ c J).shared_of_fresh;have r:=lj d ok;have hk:=jq d ok
 obtain⟨f,hf⟩:∃f:Int->DQ × Int,gF d=0->∀w:Int,aG w (-100000) 100000=true ->
   aO 74 [.agg (cn d),.agg (eR (ofQ (w:Rat)))] (.tup [.agg (fk (f w).1),I (f w).2])/\aO 23 [.agg (cn d),.agg (eR (ofQ (w:Rat)))] (.tup [.agg (fk (f w).1),I (f w).2,.bool true])/\aO 22 [.agg (fk (f w).1),.agg (fk (f w).1)] (.bool true):=by
  by_cases hE:gF d=0
  .obtain⟨f,hf⟩:=HK hl hS hE;exact⟨f,fun _=>hf⟩
  .exact⟨fun _=>(dZ,0),fun h=>absurd h hE⟩
 have p1:=Ea d hk c J f fun h w _ hin=>(hf h w hin).1;have hVl:(lT f d c).1.length<=1000:=by
  rw[lT];split<;>(try split)<;>(try split)<;>simp[iG];all_goals omega
 have p2:=Kn d c _ hVl p1;have far:=fun w=>BZ w;clear sm ok hVl;by_cases hE:gF d=0
 .rw[hE]at r;specialize hf hE;by_cases h4:c.length<=4
  .have hv:lT f d c=if sB f c=0 then(iG f c,0) else([],sB f c):=by rw[lT,if_pos hE,if_pos J]
   have hz:lg (lT f d c)=lg (lT f d c):=O;generalize hZ:lg (lT f d c)=Z at *
   generalize lT f d c=V at *
   clear hz hk hbig hmid;refine ax Proofs.Tryz.func9 ?_;refine aj a ?_;refine aj s ?_;refine H ?_;rw[hml,decide_eq_false (show ¬(4:Int)<(c.length:Int) by omega)];refine H ?_;rw[hml,decide_eq_false (show ¬(210:Int)<(c.length:Int) by omega)];refine G cp ?_;refine G ci ?_;refine G p1 ?_;refine G cp ?_;refine G ci ?_;refine G p2 ?_;refine aj r ?_;refine H ?_;rw[hml,decide_eq_false (show ¬(200:Int)<(c.length:Int) by omega)];refine cN 12 ?_;refine am (Ghost.nilreg (k:=1003) (t:=10) 50 39 1 O O) ?_;refine H ?_;refine aT [(1,.sl (c.map eN)),(2,.ptr 2 1 0 0),(5,.sl (V.1.map fk)),(6,I V.2),(7,I Z.1),(8,I Z.2),(9,I 0),(10,.als 1003 1 0 0),(11,I (-1)),(12,I ((0:Nat):Int))] [(2,1,⟨31,14,[cn d],2⟩),(1003,1,⟨50,39,[],1⟩)] ⟨O,O,O,O,O,O,O,O,O,O,O,O,trivial⟩ ?_;intro s0;refine ah (fun q:Nat × Int=>q.1<=c.length/\(q.2=0->ClearE c (fun _ w=>mL f w) q.1)/\(q.2≠0->sB f c=q.2)) (fun q=>[(1,.sl (c.map eN)),(2,.ptr 2 1 0 0),(5,.sl (V.1.map fk)),(6,I V.2),(7,I Z.1),(8,I Z.2),(9,I q.2),(10,.als 1003 (1+q.1) 0 ((iG f (c.take q.1)).map fk).length),(11,I (zU (iG f c) q.1)),(12,I (q.1:Nat))])
    (fun q=>[(2,1,⟨31,14,[cn d],2⟩),(1003,1+q.1,⟨50,39,(iG f (c.take q.1)).map fk,1⟩)]) (fun q=>c.length-q.1) (0,0) ⟨aP _,fun _ => .zero',fun h=>absurd O h⟩ ⟨O,O,O,O,O,O,O,O,O,O,O,O,trivial⟩ ?_
   rintro⟨i,g⟩ s1 ⟨hi,hg0,hg1⟩;simp only at hi hg0 hg1;by_cases hlt:i<c.length
   .by_cases hg:g=0
    .subst hg;have hcl:=hg0 O;clear hg0 hg1;obtain⟨w,hx⟩:=aC hlt;have o1:=far w;have hw:=fg i;refine H ?_;rw[hml,decide_eq_true (show((i:Nat):Int)<(c.length:Int) by omega)];refine aQ hx ?_;refine aj o1 ?_;refine H ?_;cases hin:aG w (-100000) 100000 with
     |false =>
      have he:mL f w=2:=by rw[mL,hin];rfl
      have hF:=hcl.found hx he Y;rw[show gQ c (fun _ w=>mL f w)=sB f c from O]at hF;rw[hF,if_neg Y]at hv;subst hv;rw[lg,if_neg Y]at hZ;subst hZ;exact fC
     |true =>
      have hin2:=ej hin;have hwh:=b_ w ⟨J,J⟩;obtain⟨-,hst,-⟩:=hf w hin;have he:mL f w=(f w).2:=by rw[mL,if_pos hin]
      have hrow:=y_ (f:=f) hx;have hxl:(iG f c)[i]? = some (f w).1:=by rw[iG,bD,hx];rfl
      have hll:((iG f (c.take i)).map fk).length<=200:=by rw[aR,iG,aR,bw];omega
      have hb:1+(i+1)=1+i+1:=O;have l1:=Ng hxl;have l2:=HM hxl;have l3:=Kl hxl;generalize ofQ (w:Rat)=W at *
      generalize hx1:(f w).1=x at *
      generalize hx2:(f w).2=e at *
      generalize hLI:zU (iG f c) (i+1)=LI' at *
      generalize zU (iG f c) i=LI at *
      obtain⟨xlv,⟨az,at'⟩,xF,xup,xbu,⟨x1,x2,x3,x4⟩,xh,xp⟩:=x;simp only at l1 l2 l3;generalize hR:(iG f (c.take i)).map fk=R at *
      refine cN 17 ?_;refine am (fp 13) ?_;refine be [(11,13),(12,13)] aK aK ?_;refine aQ hx ?_;refine G hwh ?_;refine G hst ?_;refine H ?_;refine ay (aY 1 O O O O O O O O O O O aH O ?_);refine H ?_;refine ay (bJ 1 O O O O O O O O O O O aH (by intro row hr;first|(simp at hr;subst hr;rfl)|simp at hr) O O aV aV ?_);refine H ?_;have hr2:(iG f (c.take (i+1))).map fk=R++[fk ⟨xlv,⟨az,at'⟩,xF,xup,xbu,⟨x1,x2,x3,x4⟩,xh,xp⟩]:=by rw[hrow,bc,hR];rfl
      have hnext:i+1<=c.length/\(e=0->ClearE c (fun _ w=>mL f w) (i+1))/\(e≠0->sB f c=e):=⟨hlt,fun h0=>hcl.succ hx (by rw[he];exact h0),fun h0=>hcl.found hx he h0⟩;by_cases hp:xp=0
      .rw[decide_eq_true hp];refine H ?_;by_cases hn:LI<0
       .rw[decide_eq_true hn];refine H ?_;refine⟨(i+1,e),hnext,by simp only;omega,O,O,O,O,O,O,O,?_,congrArg I ((l2 hp hn).symm.trans hLI.symm),congrArg I hw,O,?_,trivial⟩
        .rw[hr2,hb];rfl
        .rw[hr2,hb];rfl
       .rw[decide_eq_false hn];refine H ?_;refine⟨(i+1,e),hnext,by simp only;omega,O,O,O,O,O,O,O,?_,congrArg I ((l3 hp hn).symm.trans hLI.symm),congrArg I hw,O,?_,trivial⟩
        .rw[hr2,hb];rfl
        .rw[hr2,hb];rfl
      .rw[decide_eq_false hp];refine H ?_;refine⟨(i+1,e),hnext,by simp only;omega,O,O,O,O,O,O,O,?_,congrArg I ((l1 hp).symm.trans hLI.symm),congrArg I hw,O,?_,trivial⟩
       .rw[hr2,hb];rfl
       .rw[hr2,hb];rfl
    .have hF:=hg1 hg;rw[hF,if_neg hg]at hv;subst hv;rw[lg,if_neg hg]at hZ;subst hZ;refine H ?_;rw[hml,decide_eq_true (show((i:Nat):Int)<(c.length:Int) by omega)];refine H ?_;rw[decide_eq_false hg];refine H ?_;rw[decide_eq_false hg];refine H ?_;rw[decide_eq_true (show g=g from O)];refine H ?_;try rw[decide_eq_true (show g=g from O)]
     exact fC
   .by_cases hg:g=0
    .subst hg;have hF:=(hg0 O).none hlt;rw[show gQ c (fun _ w=>mL f w)=sB f c from O]at hF;rw[hF,if_pos O]at hv;subst hv;rw[lg,if_pos O]at hZ;have hie:i=c.length:=J;subst hie;have hLl:(iG f c).length=c.length:=by rw[iG,aR]
     have h22:∀x∈iG f c,aO 22 [.agg (fk x),.agg (fk x)] (.bool true):=fun x hx=>by
      obtain⟨w,hw,rfl⟩:=bX.1 hx;obtain⟨k,hk⟩:=iA.1 hw;have h0:=kr (f:=fun _ w=>mL f w) (show gQ c _=0 from hF) k w hk;refine(hf w ?_).2.2;by_cases hin:aG w (-100000) 100000=true
      .exact hin
      .rw[mL,if_neg hin]at h0;exact absurd h0 Y
     have hml2:((iG f c).map fk).length=(iG f c).length:=ao;refine H ?_;rw[hml,decide_eq_false (show ¬((c.length:Nat):Int)<(c.length:Int) by omega)];rw[bb,<-hLl];generalize iG f c=L at *
     refine H ?_;rw[decide_eq_true (show(((L.map fk).length:Nat):Int)=((L.map fk).length:Nat) from O)];refine cN 30 ?_;refine am (Ghost.takeD (k:=1003) (t:=10) O O O) ?_;refine H ?_;refine aT [(5,.sl (L.map fk)),(7,I Z.1),(8,I Z.2),(10,.sl (L.map fk)),(11,I (zU L L.length)),(16,I ((0:Nat):Int))] [] ⟨O,O,O,O,O,O,trivial⟩ ?_;intro s2;refine ah (fun k:Nat=>k<=L.length) (fun k=>[(5,.sl (L.map fk)),(7,I Z.1),(8,I Z.2),(10,.sl (L.map fk)),(11,I (zU L L.length)),(16,I (k:Nat))]) (fun _=>[]) (fun k=>L.length-k) 0 (aP _) ⟨O,O,O,O,O,O,trivial⟩ ?_;intro k s3 hk;refine H ?_;rw[hml2];refine aS O ?_ ?_<;>intro h
     .have hlk:k<L.length:=by have:=aB h;omega
      clear h;obtain⟨x,hx⟩:=aC hlk;have hw:=fg k;have r22:=h22 x (bm hx);obtain⟨xlv,⟨az,at'⟩,xF,xup,xbu,⟨x1,x2,x3,x4⟩,xh,xp⟩:=x;refine H ?_;refine bj [] [] aK ?_;refine aQ hx ?_;refine aQ hx ?_;refine aj r22 ?_;refine H ?_;exact⟨k+1,hlk,J,O,O,O,O,O,congrArg I hw,trivial⟩
     .clear h;by_cases hq:lX L L.length=L.length
      .rw[if_pos hq]at hZ;subst hZ;rw[zU,if_pos hq];exact fC
      .rw[if_neg hq]at hZ;subst hZ;rw[zU,if_neg hq];refine H ?_;rw[decide_eq_false (show ¬((lX L L.length:Nat):Int)<0 by omega)];refine H ?_;rw[decide_eq_true (show((lX L L.length:Nat):Int)=((lX L L.length:Nat):Int) from O)];exact fC
    .have hF:=hg1 hg;rw[hF,if_neg hg]at hv;subst hv;rw[lg,if_neg hg]at hZ;subst hZ;refine H ?_;rw[hml,decide_eq_false (show ¬((i:Nat):Int)<(c.length:Int) by omega)];refine H ?_;rw[decide_eq_false hg];refine H ?_;rw[decide_eq_true (show g=g from O)];refine H ?_;try rw[decide_eq_true (show g=g from O)]
     exact fC
  .have hv:lT f d c=([],8):=by rw[lT,if_pos hE,if_neg J]
   rw[hv,show lg ([],8)=(0,8) from O]at p2;rw[hv]at p1;clear hf hk hv;refine ax Proofs.Tryz.func9 ?_;refine aj a ?_;refine aj s ?_;refine H ?_;rw[hml,decide_eq_true (show(4:Int)<(c.length:Int) by omega)];refine H ?_;rw[hml,decide_eq_false (show ¬(c.length:Int)<=200 by omega)];refine H ?_;rw[hml,decide_eq_false (show ¬(210:Int)<(c.length:Int) by omega)];refine G cp ?_;refine G ci ?_;refine G p1 ?_;refine G cp ?_;refine G ci ?_;refine G p2 ?_;refine aj r ?_;refine H ?_;rw[hml,decide_eq_true (show(200:Int)<(c.length:Int) by omega)];refine cN 12 ?_;refine am (Ghost.nilreg (k:=1003) (t:=10) 50 39 1 O O) ?_;refine H ?_;refine ah (fun _:Nat=>True) (fun _=>[(1,.sl (c.map eN)),(5,.sl []),(6,I 8),(7,I 0),(8,I 8),(9,I 8),(12,I ((0:Nat):Int))]) (fun _=>[]) (fun _=>0) 0 trivial ⟨O,O,O,O,O,O,O,trivial⟩ ?_;intro i s1 _;refine H ?_;rw[hml,decide_eq_true (show((0:Nat):Int)<(c.length:Int) by omega)];exact fC
 .have hv:lT f d c=([],gF d):=by rw[lT,if_neg hE]
  rw[hv,show lg ([],gF d)=(0,gF d) from by rw[lg,if_neg hE]]at p2;rw[hv]at p1;clear hf hk hv;generalize gF d=E at *
  by_cases h4:4<c.length
  .refine ax Proofs.Tryz.func9 ?_;refine aj a ?_;refine aj s ?_;refine H ?_;rw[hml,decide_eq_true (show(4:Int)<(c.length:Int) by omega)];refine H ?_;rw[hml,decide_eq_false (show ¬(c.length:Int)<=200 by omega)];refine H ?_;rw[hml,decide_eq_false (show ¬(210:Int)<(c.length:Int) by omega)];refine G cp ?_;refine G ci ?_;refine G p1 ?_;refine G cp ?_;refine G ci ?_;refine G p2 ?_;refine aj r ?_;refine H ?_;rw[decide_eq_false hE];refine cN 12 ?_;refine am (Ghost.nilreg (k:=1003) (t:=10) 50 39 1 O O) ?_;refine H ?_;refine ah (fun _:Nat=>True) (fun _=>[(1,.sl (c.map eN)),(5,.sl []),(6,I E),(7,I 0),(8,I E),(9,I E),(12,I ((0:Nat):Int))]) (fun _=>[]) (fun _=>0) 0 trivial ⟨O,O,O,O,O,O,O,trivial⟩ ?_;intro i s1 _;refine H ?_;rw[hml];by_cases h0:0<c.length
   .rw[decide_eq_true (show((0:Nat):Int)<(c.length:Int) by omega)];refine H ?_;rw[decide_eq_false hE];refine H ?_;rw[decide_eq_false hE];refine H ?_;rw[decide_eq_true (show E=E from O)];refine H ?_;try rw[decide_eq_true (show E=E from O)]
    exact fC
   .rw[decide_eq_false (show ¬((0:Nat):Int)<(c.length:Int) by omega)];refine H ?_;rw[decide_eq_false hE];refine H ?_;rw[decide_eq_true (show E=E from O)];refine H ?_;try rw[decide_eq_true (show E=E from O)]
    exact fC
  .refine ax Proofs.Tryz.func9 ?_;refine aj a ?_;refine aj s ?_;refine H ?_;rw[hml,decide_eq_false (show ¬(4:Int)<(c.length:Int) by omega)];refine H ?_;rw[hml,decide_eq_false (show ¬(210:Int)<(c.length:Int) by omega)];refine G cp ?_;refine G ci ?_;refine G p1 ?_;refine G cp ?_;refine G ci ?_;refine G p2 ?_;refine aj r ?_;refine H ?_;rw[decide_eq_false hE];refine cN 12 ?_;refine am (Ghost.nilreg (k:=1003) (t:=10) 50 39 1 O O) ?_;refine H ?_;refine ah (fun _:Nat=>True) (fun _=>[(1,.sl (c.map eN)),(5,.sl []),(6,I E),(7,I 0),(8,I E),(9,I E),(12,I ((0:Nat):Int))]) (fun _=>[]) (fun _=>0) 0 trivial ⟨O,O,O,O,O,O,O,trivial⟩ ?_;intro i s1 _;refine H ?_;rw[hml];by_cases h0:0<c.length
   .rw[decide_eq_true (show((0:Nat):Int)<(c.length:Int) by omega)];refine H ?_;rw[decide_eq_false hE];refine H ?_;rw[decide_eq_false hE];refine H ?_;rw[decide_eq_true (show E=E from O)];refine H ?_;try rw[decide_eq_true (show E=E from O)]
    exact fC
   .rw[decide_eq_false (show ¬((0:Nat):Int)<(c.length:Int) by omega)];refine H ?_;rw[decide_eq_false hE];refine H ?_;rw[decide_eq_true (show E=E from O)];refine H ?_;try rw[decide_eq_true (show E=E from O)]
    exact fC
end Go.Pv
