/- Texts of one hand, gathered: DpA, DpC, TpC, TpD. -/
import Derived.Test.YtaeeehokaleakaaGreatBc1
set_option maxRecDepth 20000
set_option linter.unusedSectionVars false
set_option linter.unusedSimpArgs false
set_option linter.unusedVariables false
set_option linter.unnecessarySimpa false
set_option maxHeartbeats 2000000
namespace Go.Pv
attribute [local irreducible] PWP POps PQuiet PSem aE aw aj ak
open Go.Proofs
theorem abP {d:DKR}{p z t:Rat}(h:Slim d p)(h0:dP (dB d p)=0)(hb:(bd (dB d p)).Bal z t)(hu:∀z' t',(bd (dB d p)).Bal z' t'->z'=z/\t'=t):Stood d p z t:=by
 obtain⟨ok,hs,-⟩:=(jB h).1.2 h0;have hn:qp (dB d p):=Hb ok hb;obtain⟨-,hbal,-⟩:=vz ok hs hn;have hl:nJ (dB d p) (tE (dB d p)).1 (tE (dB d p)).2=false:=(ab9 ok hbal).2 fun z' t' hb'=>by
  have e1:=hu _ _ hbal;have e2:=hu _ _ hb';exact⟨e2.1.trans e1.1.symm,e2.2.trans e1.2.symm⟩
 have hf:(gj (dB d p).l).find? (p_ (dB d p))=none:=z6.2 fun r hr=>by rw[hn.2 r hr];decide
 have he:(fX (dB d p)).e=0:=by
  rw[fX,if_pos h0,if_neg (by rw[hn.1];decide),hf];simp only;rw[if_neg (by rw[hl];decide)]
 obtain⟨z',t',h'⟩:=Sj h he;obtain⟨rfl,rfl⟩:=hu _ _ h'.bal;exact h'
theorem abr (x:Rat)(l:List Rat):aX (x::l)=x+aX l:=by
 rw[show x::l=[x]++l from O,Db];have h3:aX [x]=x:=by show 0+x=x;grind
 rw[h3]
theorem De:∀ {v:List Rat},(∀q∈v,0<=q)->(aX v=0↔∀q∈v,q=0)
 |[],_=>⟨fun _ q hq=>(by cases hq),fun _=>rfl⟩
 |x::v,h=>by
  have h1:=h x ap;have h2:=GH fun q hq=>h q (ff x hq);have ih:=De fun q hq=>h q (ff x hq);rw[abr];constructor
  .intro h0 q hq;rcases bV.1 hq with rfl|hq
   .grind
   .exact ih.1 bP q hq
  .intro h0;have e1:=h0 x ap;have e2:=ih.2 fun q hq=>h0 q (ff x hq);grind
theorem ac9 (l:List Int):(pj l).2=0↔l=[]:=by
 have key:∀(l:List Int) (q:Int × Int),1<=q.2->1<=(l.foldl lI q).2:=by
  intro l
  induction l with
  |nil=>intro q h;exact h
  |cons x l ih =>
   intro q h;rw[fB];refine ih _ ?_;rw[lI];split
   .show 1<=q.2+1;omega
   .exact h
 cases l with
 |nil=>exact⟨fun _=>rfl,fun _=>rfl⟩
 |cons x l =>
  have h:=key l (lI (0,0) x) (by rw[lI,if_pos (.inl O)];show(1:Int)<=0+1;decide);refine⟨fun e=>?_,fun e=>by cases e⟩;rw[pj,fB]at e;omega
theorem abg:∀ {bl:List BKR} {v:List Rat},v.length<=bl.length->(ni bl v=[]↔∀q∈v,q=0)
 |[],[],_=>⟨fun _ q hq=>(by cases hq),fun _=>rfl⟩
 |[],_::_,h=>by simp at h
 |_::_,[],_=>⟨fun _ q hq=>(by cases hq),fun _=>rfl⟩
 |b::bl,x::v,h=>by
  have ih:=abg (bl:=bl) (v:=v) (by simpa using h);rw[ni];by_cases hx:x=0
  .rw[if_neg (by simpa using hx),ih];refine⟨fun h q hq=>?_,fun h q hq=>h q (ff x hq)⟩;rcases bV.1 hq with rfl|hq
   .exact hx
   .exact h q hq
  .rw[if_pos hx];exact⟨fun e=>(by cases e),fun h=>absurd (h x ap) hx⟩
theorem abb {bl:List BKR}{v:List Rat}{b:Rat}(hl:v.length<=bl.length)(hn:∀q∈v,0<=q):kH bl v b=0↔aX v=0:=by
 rw[De hn,<-abg hl,<-ac9,kH];split
 .rename_i h;exact⟨fun _=>h,fun _=>rfl⟩
 .rename_i h;refine⟨fun e=>?_,fun e=>absurd e h⟩;split at e
  .contradiction
  .split at e<;>contradiction
theorem abQ {d:DKR}{p z t:Rat}(h:Slim d p)(hs:Stood d p z t):(NW d p z t).ph=0↔aX ((vQ d p z t).take d.bl.length)=0 :=
 abb (by rw[bc];omega) fun q hq=>Pj h hs q (dD hq)
def ab0 (x:Int):BKR:=⟨x,0,300,1500,1000,ofQ ((1000:Int):Rat),1000000000,false⟩
def abw:SHP:=⟨[84,119,105,110],20000,[yF 5000,yF 15000],Ts,[]⟩
def aa3:DKR:=⟨abw,1000,[ab0 5000,ab0 15000],[],100,100000⟩
theorem acf:f7 abw=0:=by decide +kernel
theorem ac0:abw.Len:=⟨Y,Y,fun t ht=>by
 simp only[abw,bV,gx,or_false]at ht
 rcases ht with rfl|rfl<;>exact⟨Y,Y⟩⟩
theorem aaO:aa3.Len:=⟨ac0,Y,Y⟩
theorem abf {x:Int}(h:aK x (-1000000) 1000000=true):qe (ab0 x)=true:=by
 rw[qe,Kr];show(aK x (-1000000) 1000000&&aK 300 1 10000&&aK 1500 0 100000&&aK 1000 1 20000&&aK 1000000000 0 1000000000&&decide (0<(ofQ ((1000:Int):Rat)).val)&&decide ((0:Int)=0))=true;rw[h,ofQ_val];decide
theorem ace:u7 aa3.s.st aa3.zn aa3.bl=0:=by
 have h0:lu aa3.s.st aa3.zn aa3.bl 0 (ab0 5000)=0:=by
  rw[lu,if_pos (abf Y),if_pos (by show(gl 5000 0 [yF 5000,yF 15000]).isSome=true;rw[AL (.inl O)];rfl)];rfl
 have h1:lu aa3.s.st aa3.zn aa3.bl 1 (ab0 15000)=0:=by
  rw[lu,if_pos (abf Y),if_pos (by show(gl 15000 0 [yF 5000,yF 15000]).isSome=true;rw[AL (.inr O)];rfl),if_neg (by show ¬(false=true);decide),if_neg];show ¬([ab0 5000].any (lA (ab0 15000)))=true;show ¬((decide (kT 15000 5000<300+300)&&decide (2*kT 0 0<1000+1000))||false)=true;decide
 rw[u7,if_neg Y];show jM [ab0 5000,ab0 15000] _=0;rw[jM,if_pos h0,jM,if_pos h1,jM]
theorem abZ:ng aa3.s aa3.d=0:=by
 show ng abw 1000=0;rw[ng,if_pos acf];decide
theorem abA:xB aa3=0:=by
 rw[xB,if_pos abZ,if_pos (show jd aa3.zn=0 by decide),if_pos ace,if_pos Y]
theorem abB:Mp aa3=true:=by decide +kernel
theorem aaU {p:Rat}(hp:hq p 4):Slim aa3 p:=NO aaO abB abA hp
def aaF (p:Rat):BR:=⟨320000,ofQ ((10000:Int):Rat),[ji 5000,ji 15000,ri p (h_ 5000),ri p (h_ 15000)]⟩
theorem aca {x:Int}(h:x=5000\/x=15000):lw aa3.s.st (ab0 x)=ji x:=by
 have hb:jK aa3.s.st (ab0 x)=0:=by
  rw[jK];show(gl x 0 [yF 5000,yF 15000]).getD 0=0;rw[AL h];rfl
 have hs:jX (ab0 x)=((1000:Int):Rat):=by
  rw[jX,if_neg (by show ¬false=true;decide)];show(ofQ ((1000:Int):Rat)).val=_;rw[ofQ_val]
 rw[lw,hb,hs];rfl
theorem abx (p:Rat):dC aa3 p=[ji 5000,ji 15000,ri p (h_ 5000),ri p (h_ 15000)]:=by
 have h1:df aa3.s.st aa3.bl=[ji 5000,ji 15000]:=by
  show [lw aa3.s.st (ab0 5000),lw aa3.s.st (ab0 15000)]=_;rw[aca (.inl O),aca (.inr O)]
 have h2:eH 1000 abw.st=[h_ 5000,h_ 15000]:=by
  show [iq 1000 (yF 5000),iq 1000 (yF 15000)]=_;rw[GJ,GJ]
 rw[dC,h1];show [ji 5000,ji 15000]++(eH 1000 abw.st).map (ri p)=_;rw[h2];rfl
theorem acF:qX abw=((10000:Int):Rat):=by decide +kernel
theorem acn (p:Rat):dB aa3 p=aaF p:=by
 rw[dB,abx];show wB abw _=_;rw[wB,acF];rfl
theorem ach {p:Rat}(h1 : -10000000<=p)(h2:p<=10000000):dP (aaF p)=0:=by
 have hw:∀ {x:Int},-1000000<=x/\x<=1000000->rJ (ri p (h_ x))=0:=fun {x} hx =>
  GI (s:=ri p (h_ x)) hx (by show -10000000<=(ofQ p).val/\(ofQ p).val<=10000000;rw[ofQ_val];exact⟨h1,h2⟩) (IL x)
 rw[dP,if_neg]
 .rw[ej,if_neg (show ¬_ by simp[aaF])];show fK rJ [ji 5000,ji 15000,ri p (h_ 5000),ri p (h_ 15000)]=0;rw[fK,if_pos (Fg ⟨Y,Y⟩),fK,if_pos (Fg ⟨Y,Y⟩),fK,if_pos (hw ⟨Y,Y⟩),fK,if_pos (hw ⟨Y,Y⟩),fK]
 .simp only[aaF,ofQ_val];decide
theorem aaN (p:Rat)(x:Int)(z t:Rat):fQ (ri p (h_ x)) z t=wf (p+z+t*(x:Rat)):=by
 have e:fQ (ri p (h_ x)) z t=fQ (h_ x) (p+z) t:=by
  show kR _ _ _ (yQ (ri p (h_ x)) z t)=kR _ _ _ (yQ (h_ x) (p+z) t);have e2:yQ (ri p (h_ x)) z t=yQ (h_ x) (p+z) t:=by
   show(ofQ p).val+(z+t*(x:Rat))=(ofQ 0).val+(p+z+t*(x:Rat));rw[ofQ_val,ofQ_val];grind
  rw[e2];rfl
 rw[e,tJ]
theorem acx (p z t:Rat):(bd (aaF p)).F z t=kf (1500+(z+t*5000))+kf (1500+(z+t*15000))+wf (p+z+t*5000)+wf (p+z+t*15000):=by
 have e:(bd (aaF p)).F z t=(((0+fQ (ji 5000) z t)+fQ (ji 15000) z t)+fQ (ri p (h_ 5000)) z t)+fQ (ri p (h_ 15000)) z t:=O;rw[e,aaN,aaN,Hd,Hd,n5,OR];grind
theorem acy (p z t:Rat):(bd (aaF p)).G0 z t=kf (1500+(z+t*5000))*5000+kf (1500+(z+t*15000))*15000+wf (p+z+t*5000)*5000+wf (p+z+t*15000)*15000:=by
 have e:(bd (aaF p)).G0 z t=(((0+fQ (ji 5000) z t*((5000:Int):Rat))+fQ (ji 15000) z t*((15000:Int):Rat))+fQ (ri p (h_ 5000)) z t*((5000:Int):Rat))+fQ (ri p (h_ 15000)) z t*((15000:Int):Rat):=O;rw[e,aaN,aaN,Hd,Hd,n5,OR];grind
theorem acm (p:Rat):(bd (aaF p)).w=320000:=rfl
theorem acw (p:Rat):(bd (aaF p)).A=10000:=by show(ofQ ((10000:Int):Rat)).val=10000;rw[ofQ_val];rfl
theorem acg {p y:Rat}(hy:∀u,kf (1500+u)+wf (p+u)=160000↔u=y):(bd (aaF p)).Bal y 0/\∀z t,(bd (aaF p)).Bal z t->z=y/\t=0:=by
 constructor
 .have e:(bd (aaF p)).F y 0=(bd (aaF p)).w/\(bd (aaF p)).G0 y 0=(bd (aaF p)).w*(bd (aaF p)).A:=by
   have h:=(hy y).2 O;rw[acx,acy,acm,acw,show y+(0:Rat)*5000=y by grind,show y+(0:Rat)*15000=y by grind,show p+y+(0:Rat)*5000=p+y by grind,show p+y+(0:Rat)*15000=p+y by grind];generalize kf (1500+y)=a,wf (p+y)=b at *
   constructor<;>grind
  exact e
 .intro z t h;have h1:(bd (aaF p)).F z t=(bd (aaF p)).w:=h.1;have h2:(bd (aaF p)).G0 z t=(bd (aaF p)).w*(bd (aaF p)).A:=h.2;rw[acx,acm]at h1;rw[acy,acm,acw]at h2;have a1:=hy (z+t*5000);have a2:=hy (z+t*15000);rw[<-Rat.add_assoc p]at a1 a2;generalize kf (1500+(z+t*5000))=k1,kf (1500+(z+t*15000))=k2,wf (p+z+t*5000)=w1,wf (p+z+t*15000)=w2 at *
  have g1:=a1.1 bP;have g2:=a2.1 bP;have ht:t=0:=bP;subst ht;exact⟨bP,O⟩
theorem aaw {p y:Rat}(hp:hq p 4)(h1 : -10000000<=p)(h2:p<=10000000)(hy:∀u,kf (1500+u)+wf (p+u)=160000↔u=y):Stood aa3 p y 0:=by
 obtain⟨b1,b2⟩:=acg hy;exact abP (aaU hp) (by rw[acn];exact ach h1 h2) (by rw[acn];exact b1) (by rw[acn];exact b2)
theorem ac1:Stood aa3 ((4000:Int):Rat) (-2000) 0:=aaw (xD _ ⟨Y,Y⟩) Y Y fun u=>by
 rw[show((4000:Int):Rat)=4000 from O];simp only[wf,kf];constructor<;>grind
theorem acj:Stood aa3 ((3000:Int):Rat) (1000/27-1500) 0:=aaw (xD _ ⟨Y,Y⟩) Y Y fun u=>by
 rw[show((3000:Int):Rat)=3000 from O];simp only[wf,kf];constructor<;>grind
theorem aci:Stood aa3 ((0:Int):Rat) (-1340) 0:=aaw (xD _ ⟨Y,Y⟩) Y Y fun u=>by
 rw[show((0:Int):Rat)=0 from O];simp only[wf,kf];constructor<;>grind
theorem acE (p z t:Rat):vQ aa3 p z t=[kf (1500+(z+t*5000)),kf (1500+(z+t*15000)),wf (p+z+t*5000),wf (p+z+t*15000)]:=by
 rw[vQ,abx];show [fQ (ji 5000) z t,fQ (ji 15000) z t,fQ (ri p (h_ 5000)) z t,fQ (ri p (h_ 15000)) z t]=_;rw[aaN,aaN,Hd,Hd,n5,OR]
theorem ack:(NW aa3 ((4000:Int):Rat) (-2000) 0).ph=0:=by
 show kH aa3.bl ((vQ aa3 ((4000:Int):Rat) (-2000) 0).take aa3.bl.length) (aX ((vQ aa3 ((4000:Int):Rat) (-2000) 0).drop aa3.bl.length))=0;rw[acE];decide +kernel
theorem acl:(NW aa3 ((0:Int):Rat) (-1340) 0).ph=3:=by
 show kH aa3.bl ((vQ aa3 ((0:Int):Rat) (-1340) 0).take aa3.bl.length) (aX ((vQ aa3 ((0:Int):Rat) (-1340) 0).drop aa3.bl.length))=3;rw[acE];decide +kernel
structure UpOk (d:DKR) (x:DQ) (u b:Rat):Prop where
 up:x.up=ofQ u
 bu:x.bu=ofQ b
 hu:hq u 600000
 hb:hq b 600000
 m:u+b=(sM (d.s.light::d.s.it):Rat)
 ph:x.ph=0↔u=0
 z:x.a.z.le 1000000000
 t:x.a.t.le 1000000000
theorem abR {d:DKR}{p z t:Rat}(h:Slim d p)(hs:Stood d p z t):UpOk d (NW d p z t) (aX ((vQ d p z t).take d.bl.length)) (aX ((vQ d p z t).drop d.bl.length)) :=
 ⟨O,O,(Ph h hs).1,(Ph h hs).2,pW hs,abQ h hs,Kb hs.hz.ok Y,Kb hs.ht.ok Y⟩
theorem abc {d:DKR}(hl:d.Len)(hS:Mp d=true)(hE:xB d=0):∃(f:Int->DQ × Int) (U B:Int->Rat),
  (∀w:Int,aK w (-100000) 100000=true->aU 57 [.agg (fv d),.agg (eR (ofQ (w:Rat)))] (.tup [.agg (xq (f w).1),I (f w).2])/\((f w).2=0->UpOk d (f w).1 (U w) (B w))) /\
  ∀w v:Int,aK w (-100000) 100000=true->aK v (-100000) 100000=true->(f w).2=0->(f v).2=0->v<=w->U w<=U v:=by
 have key:∀w:Int,∃P:(DQ × Int) × (Rat × Rat),aK w (-100000) 100000=true ->
   aU 57 [.agg (fv d),.agg (eR (ofQ (w:Rat)))] (.tup [.agg (xq P.1.1),I P.1.2])/\(P.1.2=0->Stood d (w:Rat) P.2.1 P.2.2/\P.1.1=NW d (w:Rat) P.2.1 P.2.2):=by
  intro w;by_cases hin:aK w (-100000) 100000=true
  .obtain⟨ha,hb⟩:=iA hin;have zw:Zb w:=aI J J;have hq4:hq (w:Rat) 4:=HQ.int.ok;have v:Vq (ofQ (w:Rat)) (w:Rat) 4:=Vq.ofQ (h:=⟨hq4⟩);have h1:Slim d (w:Rat):=NO hl hS hE hq4;by_cases he:(fX (dB d (w:Rat))).e=0
   .obtain⟨z,t,hs⟩:=Sj h1 he;exact⟨((NW d (w:Rat) z t,0),(z,t)),fun _=>⟨P4 (hlv:=v) Y hl h1 hs,fun _=>⟨hs,O⟩⟩⟩
   .exact⟨((dZ,(fX (dB d (w:Rat))).e),(0,0)),fun _=>⟨PY (hlv:=v) Y hl h1 he,fun e=>absurd e he⟩⟩
  .exact⟨((dZ,0),(0,0)),fun h=>absurd h hin⟩
 obtain⟨P,hP⟩:∃P:Int->(DQ × Int) × (Rat × Rat),∀w,aK w (-100000) 100000=true ->
   aU 57 [.agg (fv d),.agg (eR (ofQ (w:Rat)))] (.tup [.agg (xq (P w).1.1),I (P w).1.2])/\((P w).1.2=0->Stood d (w:Rat) (P w).2.1 (P w).2.2/\(P w).1.1=NW d (w:Rat) (P w).2.1 (P w).2.2) :=
  ⟨fun w=>Classical.choose (key w),fun w=>Classical.choose_spec (key w)⟩
 have slim:∀w:Int,aK w (-100000) 100000=true->Slim d (w:Rat):=fun w hin=>by
  obtain⟨ha,hb⟩:=iA hin;have zw:Zb w:=aI J J;exact NO hl hS hE HQ.int.ok
 refine⟨fun w=>(P w).1,fun w=>aX ((vQ d (w:Rat) (P w).2.1 (P w).2.2).take d.bl.length),fun w=>aX ((vQ d (w:Rat) (P w).2.1 (P w).2.2).drop d.bl.length),fun w hin=>⟨(hP w hin).1,fun e=>?_⟩,fun w v hw hv ew ev hle=>?_⟩
 .obtain⟨hs,hx⟩:=(hP w hin).2 e;show UpOk d (P w).1.1 _ _;rw[hx];exact abR (slim w hin) hs
 .exact acC (slim w hw) ((hP w hw).2 ew).1 ((hP v hv).2 ev).1 (by exact_mod_cast hle)
theorem aaV {α:Type}{l:List α}{f:Nat->α->Int}(h:∀x∈l,∀i,f i x=0):jM l f=0:=yc fun j x hx=>h x (bC hx) j
theorem aa5 {f:Int->DQ × Int}{c:List Int}(h:aad f c=0){w:Int}(hw:w∈c):aK w (-100000) 100000=true/\(f w).2=0:=by
 obtain⟨i,hi⟩:=i5.1 hw;have e:aaj f w=0:=lU h i w hi;rw[aaj]at e;split at e
 .rename_i hin;exact⟨hin,e⟩
 .exact absurd e Y
theorem abC {f:Int->DQ × Int}{c:List Int}(h:aad f c=0):aad f c.reverse=0 :=
 aaV fun w hw i=>by
  obtain⟨h1,h2⟩:=aa5 h (List.mem_reverse.1 hw);show aaj f w=0;rw[aaj,if_pos h1,h2]
theorem aaP {d:DKR}{f:Int->DQ × Int}{c:List Int}(hE:xB d=0)(hc:c.length<=200)(h:aad f c=0):aaf f d c=(aab f c,0):=by
 rw[aaf,if_pos hE,if_pos hc,if_pos h]
theorem abD {d:DKR}{f:Int->DQ × Int}{c:List Int}(hE:xB d=0)(hc:c.length<=200)(h:aad f c=0):aaf f d c.reverse=((aab f c).reverse,0):=by
 rw[aaP hE (by rw[List.length_reverse];exact hc) (abC h),aab,aab,List.map_reverse]
theorem abj {d:DKR}(hl:d.Len)(hS:Mp d=true)(c:List Int)(hc:c.length<=200):∃(e:Int) (X:Int->DQ) (U B:Int->Rat),
  aU 16 [.agg (fv d),.sl (c.map eN)] (.tup [.sl ((if e=0 then c.map X else []).map xq),I e]) /\
  (e=0->xB d=0/\aU 16 [.agg (fv d),.sl (c.reverse.map eN)] (.tup [.sl ((c.reverse.map X).map xq),I 0])/\(∀w∈c,UpOk d (X w) (U w) (B w))/\∀w∈c,∀v∈c,v<=w->U w<=U v):=by
 have hk:=pC d ((Pe hS).ok hl);by_cases hE:xB d=0
 .obtain⟨f,U,B,h1,h2⟩:=abc hl hS hE;have r1:=aa9 d hk c J f fun _ w _ hin=>(h1 w hin).1;have r2:=aa9 d hk c.reverse (by rw[List.length_reverse];omega) f fun _ w _ hin=>(h1 w hin).1;by_cases he:aad f c=0
  .rw[aaP hE hc he]at r1;rw[abD hE hc he]at r2;refine⟨0,fun w=>(f w).1,U,B,r1,fun _=>⟨hE,?_,fun w hw=>(h1 w (aa5 he hw).1).2 (aa5 he hw).2,fun w hw v hv=>h2 w v (aa5 he hw).1 (aa5 he hv).1 (aa5 he hw).2 (aa5 he hv).2⟩⟩;rw[aab,<-List.map_reverse]at r2;exact r2
  .rw[show aaf f d c=([],aad f c) by rw[aaf,if_pos hE,if_pos hc,if_neg he]]at r1;refine⟨aad f c,fun _=>dZ,U,B,?_,fun e=>absurd e he⟩;rw[if_neg he];exact r1
 .have r1:=aa9 d hk c J (fun _=>(dZ,0)) fun h=>absurd h hE;rw[show aaf (fun _=>(dZ,0)) d c=([],xB d) by rw[aaf,if_neg hE]]at r1;refine⟨xB d,fun _=>dZ,fun _=>0,fun _=>0,?_,fun e=>absurd e hE⟩;rw[if_neg hE];exact r1
theorem abh:∃x0 x1 x2:DQ,x0.ph=0/\x2.ph=3/\aU 16 [.agg (fv aa3),.sl (([4000,3000,0]:List Int).map eN)] (.tup [.sl ([x0,x1,x2].map xq),I 0]):=by
 have hk:=pC aa3 ((Pe abB).ok aaO);refine⟨NW aa3 ((4000:Int):Rat) (-2000) 0,NW aa3 ((3000:Int):Rat) (1000/27-1500) 0,NW aa3 ((0:Int):Rat) (-1340) 0,ack,acl,?_⟩;have at':∀(w:Int) (z:Rat),aK w (-100000) 100000=true->Stood aa3 (w:Rat) z 0->aU 57 [.agg (fv aa3),.agg (eR (ofQ (w:Rat)))] (.tup [.agg (xq (NW aa3 (w:Rat) z 0)),I 0]):=fun w z hin hs=>by
  obtain⟨ha,hb⟩:=iA hin;have zw:Zb w:=aI J J;have hq4:hq (w:Rat) 4:=HQ.int.ok;exact P4 (lv:=ofQ (w:Rat)) (hlv:=Vq.ofQ (h:=⟨hq4⟩)) Y aaO (aaU hq4) hs
 let f:Int->DQ × Int:=fun w=>if w=4000 then(NW aa3 ((4000:Int):Rat) (-2000) 0,0) else if w=3000 then(NW aa3 ((3000:Int):Rat) (1000/27-1500) 0,0) else(NW aa3 ((0:Int):Rat) (-1340) 0,0)
 have hf:∀w∈([4000,3000,0]:List Int),aU 57 [.agg (fv aa3),.agg (eR (ofQ (w:Rat)))] (.tup [.agg (xq (f w).1),I (f w).2]):=by
  intro w hw;simp only[bV,gx,or_false]at hw;rcases hw with rfl|rfl|rfl
  .exact at' 4000 _ Y ac1
  .exact at' 3000 _ Y acj
  .exact at' 0 _ Y aci
 have r:=aa9 aa3 hk [4000,3000,0] Y f fun _ w hw _=>hf w hw;have he:aad f [4000,3000,0]=0:=aaV fun w hw i=>by
  simp only[bV,gx,or_false]at hw;rcases hw with rfl|rfl|rfl<;>rfl
 rw[aaP abA Y he]at r;exact r
set_option maxHeartbeats 16000000 in
theorem abT:aU 9 [] (.agg (fx abw)):=by
 have hT:∀i:Nat,i<2->(xJ.take (i+1)).map eT=(xJ.take i).map eT++[[I (if i=0 then 5000 else 15000),I 10000,.sl [[I 0],[I 3000]],.sl [[I 4000]]]]:=fun i hi=>by
  obtain rfl|rfl:i=0\/i=1:=J
  .rfl
  .rfl
 have hlT:∀i:Nat,((xJ.take i).map eT).length<=2:=fun i=>by rw[aF,bc];exact Af _ _
 have hend:fx abw=[.str [84,119,105,110],I 20000,.sl ((xJ.take 2).map eT),.str [76,105,103,104,116],I 320000,I 10000,I 2000,I 0,.sl []]:=O;rw[hend];clear hend
 suffices hz:aU 9 [] (.agg [.str [84,119,105,110],I 20000,.sl ((xJ.take 2).map eT),.str [76,105,103,104,116],I 320000,I 10000,I 2000,I 0,.nil]) from
  hz.weak .nil (WeakL.agg (.cons (.rfl _) (.cons (.rfl _) (.cons (.rfl _) (.cons (.rfl _) (.cons (.rfl _) (.cons (.rfl _) (.cons (.rfl _) (.cons (.rfl _) (.cons .nil .nil))))))))))
 refine aD Proofs.Tryz.func9 ?_;refine cV 2 ?_;refine ao (Ghost.nilcell (k:=400) (k0:=1) (i:=0) (j:=2) (row:=[.str [84,119,105,110],I 20000,.nil,.str [76,105,103,104,116],I 320000,I 10000,I 2000,I 0,.nil]) 115 4 1 O O O O O O O) ?_;refine H ?_;refine aQ [(0,.ptr 0 1 0 0),(1,.ptr 1 1 0 0),(2,I ((0:Nat):Int))] [(0,1,⟨27,9,[[.str [],I 0,.nil,.str [],I 0,I 0,I 0,I 0,.nil]],2⟩),(1,1,⟨27,9,[[.str [84,119,105,110],I 20000,.als 400 1 0 0,.str [76,105,103,104,116],I 320000,I 10000,I 2000,I 0,.nil]],2⟩),(400,1,⟨115,4,[],1⟩)] ah ?_;intro s0;generalize ([84,119,105,110]:List UInt8)=S1;generalize ([76,105,103,104,116]:List UInt8)=S2;refine ai (fun i:Nat=>i<=2) (fun i=>[(0,.ptr 0 1 0 0),(1,.ptr 1 1 0 0),(2,I (i:Nat))])
  (fun i=>[(0,1,⟨27,9,[[.str [],I 0,.nil,.str [],I 0,I 0,I 0,I 0,.nil]],2⟩),(1,1,⟨27,9,[[.str S1,I 20000,.als 400 (1+i) 0 ((xJ.take i).map eT).length,.str S2,I 320000,I 10000,I 2000,I 0,.nil]],2⟩),(400,1+i,⟨115,4,(xJ.take i).map eT,1⟩)]) (fun i=>2-i) 0 (aP _)
  ah ?_
 intro i s hi;refine D ?_ ?_<;>intro h
 .have hlt:i<2:=cw h;clear h;have hTi:=hT i hlt;have hti:=hlT i;have hw:=dN i;have hx:IntKind.i64.wrap (5000+IntKind.i64.wrap (10000*((i:Nat):Int)))=if i=0 then 5000 else 15000:=by
   obtain rfl|rfl:i=0\/i=1:=J
   .rfl
   .rfl
  have h1:1+(i+1)=1+i+1:=O;generalize (xJ.take i).map eT=T,(if i=0 then(5000:Int) else 15000)=X at *
  refine H ?_;rw[hx];refine H ?_;refine ci O O (fE O O O O O O O O O O ah O) ?_;refine H ?_;refine ci O O (fE O O O O O O O O O O ah O) ?_;refine H ?_;refine aC (bb 1 O O O O O O O O O O O ah O ?_);refine H ?_;refine aC (bO 1 O O O O O O O O O O O ah fW O O aS aS ?_);refine H ?_;refine⟨i+1,hlt,J,O,O,congrArg I hw,O,?_,?_,bh⟩
  .rw[hTi];rfl
  .rw[hTi];rfl
 have hie:i=2:=co h;clear h;subst hie;refine ao (Ghost.freezeD (k:=400) (k0:=1) (i:=0) (j:=2) (row:=[.str S1,I 20000,.als 400 (1+2) 0 ((xJ.take 2).map eT).length,.str S2,I 320000,I 10000,I 2000,I 0,.nil]) O O O O O O O O) ?_;generalize (xJ.take 2).map eT=T at *
 exact cA
def aaH:List BKR:=[ab0 5000,ab0 15000]
def ab3:List Int:=[5000,15000]
set_option maxHeartbeats 16000000 in
theorem ab4:aU 17 [.sl (ab3.map eN)] (.agg (fv aa3)):=by
 have w:=cf 1000 ⟨Y,Y⟩;have tw:=abT;have hB:∀(i:Nat) (x:Int),ab3[i]?=some x->(aaH.take (i+1)).map eBk=(aaH.take i).map eBk++[[I x,I 0,I 300,I 1500,I 1000]++eR (ofQ ((1000:Int):Rat))++[I 1000000000,.bool false]]:=fun i x hx=>by
  match i,hx with
  |0,hx=>cases hx;rfl
  |1,hx=>cases hx;rfl
 have hlB:∀i:Nat,((aaH.take i).map eBk).length<=2:=fun i=>by rw[aF,bc];exact Af _ _
 have hml:(ab3.map eN).length=2:=O;have hend:fv aa3=[.str [84,119,105,110],I 20000,.sl (xJ.map eT),.str [76,105,103,104,116],I 320000,I 10000,I 2000,I 0,.sl [],I 1000,.sl ((aaH.take 2).map eBk),.sl [],I 100,I 100000]:=O;have hsh:fx abw=[.str [84,119,105,110],I 20000,.sl (xJ.map eT),.str [76,105,103,104,116],I 320000,I 10000,I 2000,I 0,.sl []]:=O;rw[hend];rw[hsh]at tw;clear hend hsh;generalize ofQ ((1000:Int):Rat)=W,xJ.map eT=TT,([84,119,105,110]:List UInt8)=S1,([76,105,103,104,116]:List UInt8)=S2 at *
 suffices hz:aU 17 [.sl (ab3.map eN)] (.agg [.str S1,I 20000,.sl TT,.str S2,I 320000,I 10000,I 2000,I 0,.sl [],I 1000,.sl ((aaH.take 2).map eBk),.nil,I 100,I 100000]) from
  hz.weak (WeakL.refl _) (WeakL.agg (.cons (.rfl _) (.cons (.rfl _) (.cons (.rfl _) (.cons (.rfl _) (.cons (.rfl _) (.cons (.rfl _) (.cons (.rfl _) (.cons (.rfl _) (.cons (.rfl _) (.cons (.rfl _) (.cons (.rfl _) (.cons .nil (WeakL.refl _))))))))))))))
 refine aD Proofs.Tryz.func17 ?_;refine G tw ?_;refine cV 2 ?_;refine ao (Ghost.nilcell (k:=1003) (k0:=3) (i:=0) (j:=10) (row:=[.str S1,I 20000,.sl TT,.str S2,I 320000,I 10000,I 2000,I 0,.sl [],I 1000,.nil,.nil,I 100,I 100000]) 136 11 1 O O O O O O O) ?_;refine H ?_;refine aQ [(0,.sl (ab3.map eN)),(2,.ptr 2 1 0 0),(3,.ptr 3 1 0 0),(4,I ((0:Nat):Int))] [(2,1,⟨56,14,[[.str [],I 0,.nil,.str [],I 0,I 0,I 0,I 0,.nil,I 0,.nil,.nil,I 0,I 0]],2⟩),(3,1,⟨56,14,[[.str S1,I 20000,.sl TT,.str S2,I 320000,I 10000,I 2000,I 0,.sl [],I 1000,.als 1003 1 0 0,.nil,I 100,I 100000]],2⟩),(1003,1,⟨136,11,[],1⟩)] ah ?_;intro s0;refine ai (fun i:Nat=>i<=2) (fun i=>[(0,.sl (ab3.map eN)),(2,.ptr 2 1 0 0),(3,.ptr 3 1 0 0),(4,I (i:Nat))])
  (fun i=>[(2,1,⟨56,14,[[.str [],I 0,.nil,.str [],I 0,I 0,I 0,I 0,.nil,I 0,.nil,.nil,I 0,I 0]],2⟩),(3,1,⟨56,14,[[.str S1,I 20000,.sl TT,.str S2,I 320000,I 10000,I 2000,I 0,.sl [],I 1000,.als 1003 (1+i) 0 ((aaH.take i).map eBk).length,.nil,I 100,I 100000]],2⟩),(1003,1+i,⟨136,11,(aaH.take i).map eBk,1⟩)]) (fun i=>2-i) 0 (aP _)
  ah ?_
 intro i s hi;refine H ?_;rw[hml];refine aV O ?_ ?_<;>intro h
 .have hlt:i<2:=cw h;clear h;obtain⟨x,hx⟩:=ay (show i<ab3.length from hlt);have hBi:=hB i x hx;have hbi:=hlB i;have hw:=dN i;have h1:1+(i+1)=1+i+1:=O;generalize (aaH.take i).map eBk=B at *
  refine cV 5 ?_;refine bM [21,1003] [3] 11 [8,9,11] aH aH ?_;refine aN hx ?_;refine G w ?_;refine H ?_;refine jQ O O O (bb 1 O O O O O O O O O O O ah O ⟨fU O,?_⟩);refine H ?_;refine jQ O O O (bO 1 O O O O O O O O O O O ah (by intro row hr;first|(simp at hr;subst hr;rfl)|(simp at hr;obtain⟨_,_,rfl⟩:=hr;rfl)|simp at hr) O O aS aS ⟨fU O,?_⟩);refine H ?_;refine⟨i+1,hlt,J,O,O,O,congrArg I hw,O,?_,?_,bh⟩
  .rw[hBi];rfl
  .rw[hBi];rfl
 have hie:i=2:=co h;clear h;subst hie;refine ao (Ghost.freezeD (k:=1003) (k0:=3) (i:=0) (j:=10) (row:=[.str S1,I 20000,.sl TT,.str S2,I 320000,I 10000,I 2000,I 0,.sl [],I 1000,.als 1003 (1+2) 0 ((aaH.take 2).map eBk).length,.nil,I 100,I 100000]) O O O O O O O O) ?_;generalize (aaH.take 2).map eBk=B at *
 exact cA
theorem dec_Cr {c:PV}(h:argW lay.get 57 c):∃l:List Int,c=.sl (l.map eN)/\l.length<=9223372036854775807:=by
 obtain⟨l,e,hl,-⟩:=Bw (n:=10) (show o0 lay.get 12 57 [c] from h);cases e;exact⟨l,O,hl⟩
theorem abM {c:List Int}{k:Nat}{w:Int}(h:c[k]?=some w):(c.drop k).reverse=(c.drop (k+1)).reverse++[w]:=by
 obtain⟨hl,rfl⟩:=cb h;rw[jm hl,List.reverse_cons]
set_option maxHeartbeats 8000000 in
theorem upthrust_law (d:DKR)(hl:d.Len)(c:List Int)(hcl:c.length<=9223372036854775807):aU 4 [.agg (fv d),.sl (c.map eN)] (.bool true):=by
 have cr:=ab4;obtain⟨x0,x1,x2,ph0,ph2,fo⟩:=abh;have s:=NQ d;have hml:(c.map eN).length=c.length:=ap;have i0:[x0,x1,x2][0]?=some x0:=O;have i2:[x0,x1,x2][2]?=some x2:=O;have l3:([x0,x1,x2].map xq).length=3:=O;have cr2:aU 17 [.sl [[I 5000],[I 15000]]] (.agg (fv aa3)):=cr;have fo2:aU 16 [.agg (fv aa3),.sl [[I 4000],[I 3000],[I 0]]] (.tup [.sl ([x0,x1,x2].map xq),I 0]):=fo;clear cr fo;generalize aa3=D0 at *
 obtain⟨q1,q2,q3,q4,q5,q6⟩:=D0;obtain⟨alv,⟨aaz,aat⟩,aFzz,aup,abu,⟨a1,a2,a3,a4⟩,ahzz,apzz⟩:=x0;obtain⟨blv,⟨baz,bat⟩,bFzz,bup,bbu,⟨b1,b2,b3,b4⟩,bhzz,bp⟩:=x2;simp only at ph0 ph2;subst ph0 ph2;refine aD Proofs.Tryz.func4 ?_;refine H ?_;refine ci O O (fE O O O O O O O O O O ah O) ?_;refine G cr2 ?_;refine H ?_;refine ci O O (fE O O O O O O O O O O ah O) ?_;refine G fo2 ?_;refine H ?_;rw[l3];refine aN i0 ?_;refine aN i2 ?_;refine ax s ?_;cases hS:Mp d with
 |false =>
  exact kU
 |true =>
 refine H ?_;rw[hml];refine aV O ?_ ?_<;>intro h
 .exact kU
 have h4:c.length<=4:=co h;clear h;have ok:=(Pe hS).ok hl;obtain⟨e,X,U,B,p1,hex⟩:=abj hl hS c J;by_cases he:e=0
 .subst he;rw[if_pos O]at p1;obtain⟨hE,p2,hu,hmon⟩:=hex O;clear hex;have sok:=lk (iT (Jv ok hE).2.2);obtain⟨w1,w2,-⟩:=B8 sok;have ml:=tz d.s _ O sok.ld sok.m (by have:=sok.n;simp;omega);have wm:=cf (sM (d.s.light::d.s.it)) ⟨J,J⟩;have zm:Zb (sM (d.s.light::d.s.it)):=aI J J;have sr:=oN (ofQ (sM (d.s.light::d.s.it):Rat)) (Kb (n:=4) HQ.int.ok Y);have hadd:∀w∈c,aU 22 [.agg (eR (ofQ (U w))),.agg (eR (ofQ (B w)))] (.agg (eR (ofQ (sM (d.s.light::d.s.it):Rat)))):=fun w hw=>by
   have h:=hu w hw;have a1:=b8 (ofQ (U w)) (ofQ (B w)) (hx:=Vq.ofQ (h:=⟨h.hu⟩)) (hy:=Vq.ofQ (h:=⟨h.hb⟩)) Y Y;rw[h.m]at a1;exact a1
  have hsg:∀w∈c,aU 23 [.agg (eR (ofQ (U w)))] (I (sgn (U w))):=fun w hw=>gD (ofQ (U w)) (hx:=Vq.ofQ (h:=⟨(hu w hw).hu⟩)) Y;have hcm:∀w∈c,∀v∈c,aU 24 [.agg (eR (ofQ (U v))),.agg (eR (ofQ (U w)))] (I (sgn (U v-U w))):=fun w hw v hv=>jv (ofQ (U v)) (ofQ (U w)) (hx:=Vq.ofQ (h:=⟨(hu v hv).hu⟩)) (hy:=Vq.ofQ (h:=⟨(hu w hw).hu⟩)) Y Y;have hsa:∀w∈c,aU 15 [.agg (eA (X w).a),.agg (eA (X w).a)] (.bool true):=fun w hw=>abo _ (hu w hw).z (hu w hw).t;rw[xL,Te]at ml;have hlm:((c.map X).map xq).length=c.length:=ap;have hlm2:((c.reverse.map X).map xq).length=c.length:=ap;have hw0:=gp ((c.length:Int)-1);generalize hMR:ofQ (sM (d.s.light::d.s.it):Rat)=MRzz at *
  generalize sM (d.s.light::d.s.it)=mi at *
  obtain⟨s',den,bl,zn,gm,oh⟩:=d;clear w1 w2 zm sok ok hE;simp only at ml;refine G p1 ?_;refine cV 10 ?_;refine ao (Ghost.nilreg (k:=1003) (t:=7) 3 1 1 O O) ?_;refine H ?_;rw[hml,hw0];refine aQ [(1,.sl (c.map eN)),(2,.ptr 2 1 0 0),(5,.sl ((c.map X).map xq)),(7,.als 1003 1 0 0),(8,I ((c.length:Int)-1))] [(2,1,⟨56,14,[fv ⟨s',den,bl,zn,gm,oh⟩],2⟩),(1003,1,⟨3,1,[],1⟩)] ah ?_;intro s0;refine ai (fun k:Nat=>k<=c.length) (fun k=>[(1,.sl (c.map eN)),(2,.ptr 2 1 0 0),(5,.sl ((c.map X).map xq)),(7,.als 1003 (1+(c.length-k)) 0 ((c.drop k).reverse.map eN).length),(8,I ((k:Int)-1))])
   (fun k=>[(2,1,⟨56,14,[fv ⟨s',den,bl,zn,gm,oh⟩],2⟩),(1003,1+(c.length-k),⟨3,1,(c.drop k).reverse.map eN,1⟩)]) (fun k=>k) c.length (aY) ⟨O,O,O,by rw[gX,iD];rfl,O,O,by rw[gX,iD];rfl,bh⟩ ?_
  intro k s1 hk;rcases k with _ | k
  .refine ao (Ghost.takeD (k:=1003) (t:=7) O O O) ?_;rw[fO];refine G p2 ?_;refine H ?_;rw[hlm,hml,decide_eq_true (show(c.length:Int)=(c.length:Int) from O)];refine H ?_;rw[hlm2,hlm,decide_eq_true (show(c.length:Int)=(c.length:Int) from O)];refine G ml ?_;refine G wm ?_;refine H ?_;refine aQ [(1,.sl (c.map eN)),(2,.ptr 2 1 0 0),(5,.sl ((c.map X).map xq)),(9,.sl ((c.reverse.map X).map xq)),(11,.ptr 11 ((s1.own 11).1+1) 0 0),(12,I ((0:Nat):Int))] [(2,1,⟨56,14,[fv ⟨s',den,bl,zn,gm,oh⟩],2⟩),(11,(s1.own 11).1+1,⟨41,4,[eR MRzz],2⟩)] ah ?_;generalize (s1.own 11).1+1=g11;intro s2;refine ai (fun i:Nat=>i<=c.length) (fun i=>[(1,.sl (c.map eN)),(2,.ptr 2 1 0 0),(5,.sl ((c.map X).map xq)),(9,.sl ((c.reverse.map X).map xq)),(11,.ptr 11 g11 0 0),(12,I (i:Nat))])
    (fun _=>[(2,1,⟨56,14,[fv ⟨s',den,bl,zn,gm,oh⟩],2⟩),(11,g11,⟨41,4,[eR MRzz],2⟩)]) (fun i=>c.length-i) 0 (aP _) ah ?_
   intro i s3 hi;refine H ?_;rw[hlm];refine aV O ?_ ?_<;>intro h
   .have hlt:i<c.length:=cw h;clear h;obtain⟨w,hw⟩:=ay hlt;have hwc:=bC hw;have hx:(c.map X)[i]?=some (X w):=by rw[bw,hw];rfl
    have hx2:(c.reverse.map X)[c.length-1-i]?=some (X w):=by
     rw[bw,List.getElem?_reverse J,show c.length-1-(c.length-1-i)=i by omega,hw];rfl
    have k1:=hadd w hwc;have k2:=hsg w hwc;have k3:=hsa w hwc;have hup:=hu w hwc;have hwi:=dN i;have hix:IntKind.i64.wrap (IntKind.i64.wrap ((c.length:Int)-1)-(i:Int))=((c.length-1-i:Nat):Int):=by rw[hw0,wrap_i64 J J];omega
    have hb:decide ((X w).ph=0)=decide (sgn (U w)=0):=decide_eq_decide.2 (by rw[hup.ph,gi]);obtain⟨hup1,hup2,-,-,-,-,-,-⟩:=hup;have hge:∀v∈c,v<=w->¬sgn (U v-U w)<0:=fun v hv hle=>by
     have h1:=hmon w hwc v hv hle;have h2:0<=sgn (U v-U w):=(Lk _).2 bP;omega
    have hcw:=hcm w hwc;generalize X w=x at *
    obtain⟨xlv,⟨xzzz,xtzz⟩,xF,xup,xbu,⟨y1,y2zz,y3,y4⟩,xh,xp⟩:=x;simp only at hup1 hup2 hb k3;subst hup1 hup2;generalize ofQ (U w)=UW,ofQ (B w)=BW,sgn (U w)=GWzz at *
    refine aN hx ?_;refine cV 22 ?_;refine bL [] [] aH ?_;refine G k1 ?_;refine ax sr ?_;refine ax k2 ?_;refine H ?_;rw[hb,bne_self_eq_false];refine H ?_;rw[hlm2,hix];refine tp O O O O O O O hx2 O ?_;refine ax k3 ?_;refine H ?_;refine aQ [(1,.sl (c.map eN)),(2,.ptr 2 1 0 0),(5,.sl ((c.map X).map xq)),(9,.sl ((c.reverse.map X).map xq)),(11,.ptr 11 g11 0 0),(12,I (i:Nat)),(13,.ptr 13 ((s3.own 13).1+1) 0 0),(14,I ((0:Nat):Int))] [(2,1,⟨56,14,[fv ⟨s',den,bl,zn,gm,oh⟩],2⟩),(11,g11,⟨41,4,[eR MRzz],2⟩),(13,(s3.own 13).1+1,⟨65,39,[xq ⟨xlv,⟨xzzz,xtzz⟩,xF,UW,BW,⟨y1,y2zz,y3,y4⟩,xh,xp⟩],2⟩)] ah ?_;generalize (s3.own 13).1+1=g13;intro s4;refine ai (fun k:Nat=>k<=c.length) (fun k=>[(1,.sl (c.map eN)),(2,.ptr 2 1 0 0),(5,.sl ((c.map X).map xq)),(9,.sl ((c.reverse.map X).map xq)),(11,.ptr 11 g11 0 0),(12,I (i:Nat)),(13,.ptr 13 g13 0 0),(14,I (k:Nat))])
     (fun _=>[(2,1,⟨56,14,[fv ⟨s',den,bl,zn,gm,oh⟩],2⟩),(11,g11,⟨41,4,[eR MRzz],2⟩),(13,g13,⟨65,39,[xq ⟨xlv,⟨xzzz,xtzz⟩,xF,UW,BW,⟨y1,y2zz,y3,y4⟩,xh,xp⟩],2⟩)]) (fun k=>c.length-k) 0 (aP _) ah ?_
    intro k s5 hk2;refine H ?_;rw[hlm];refine aV O ?_ ?_<;>intro h
    .have hlk:k<c.length:=cw h;clear h;obtain⟨v,hv⟩:=ay hlk;have hvc:=bC hv;have hy:(c.map X)[k]?=some (X v):=by rw[bw,hv];rfl
     have hv1:=(hu v hvc).up;have q:=hcw v hvc;have hgv:=hge v hvc;have hwk:=dN k;generalize X v=y at *
     obtain⟨zlv,⟨zz,ztzz⟩,zF,zup,zbu,⟨z1,z2,z3,z4⟩,zh,zpzz⟩:=y;simp only at hv1;subst hv1;generalize ofQ (U v)=UV,sgn (U v-U w)=GVzz at *
     refine cV 27 ?_;refine bL [] [] aH ?_;refine aN hv ?_;refine aN hw ?_;refine H ?_;by_cases hle:v<=w
     .have hgv:=hgv hle;rw[decide_eq_true hle];refine aN hy ?_;refine ax q ?_;refine H ?_;rw[decide_eq_false hgv];refine H ?_;exact⟨k+1,hlk,J,O,O,O,O,O,O,O,congrArg I hwk,ah⟩
     .rw[decide_eq_false hle];refine H ?_;exact⟨k+1,hlk,J,O,O,O,O,O,O,O,congrArg I hwk,ah⟩
    .clear h;refine H ?_;exact⟨i+1,hlt,J,O,O,O,O,O,congrArg I hwi,ah⟩
   .clear h;exact kU
  .obtain⟨w,hw⟩:=ay (show k<c.length by omega);have hk1:(((k+1:Nat):Int)-1)=(k:Int):=J;have hsub:=gp ((k:Int)-1);have hll:((c.drop (k+1)).reverse.map eN).length<=4:=by rw[aF,List.length_reverse,gW];omega
   have hrow:(c.drop k).reverse.map eN=(c.drop (k+1)).reverse.map eN++[[I w]]:=by rw[abM hw,bj];rfl
   have hb:1+(c.length-k)=1+(c.length-(k+1))+1:=J;generalize (c.drop (k+1)).reverse.map eN=R0,1+(c.length-(k+1))=g0 at *
   rw[hk1];refine H ?_;rw[decide_eq_true (show(0:Int)<=(k:Int) by omega)];refine aN hw ?_;refine H ?_;refine aC (bb 1 O O O O O O O O O O O ah O ?_);refine H ?_;refine aC (bO 1 O O O O O O O O O O O ah fW O O aS aS ?_);refine H ?_;refine⟨k,J,J,O,O,O,?_,congrArg I hsub,O,?_,bh⟩
   .rw[hrow,hb];rfl
   .rw[hrow,hb];rfl
 .rw[if_neg he]at p1;clear hex;refine G p1 ?_;refine H ?_;rw[decide_eq_false he];exact kU
end Go.Pv
