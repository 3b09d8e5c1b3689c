/- Texts of one hand, gathered: DlK, DlO, DoG, DoH. -/
import Derived.Test.YtaeeehokaleakaaGreatBa6
set_option maxRecDepth 20000
set_option linter.unusedSectionVars false
set_option linter.unusedSimpArgs false
set_option linter.unusedVariables false
set_option linter.unnecessarySimpa false
set_option maxHeartbeats 2000000
namespace Go.Pv
attribute [local irreducible] PWP POps PQuiet PSem aE aw aj ak
open Go.Proofs
theorem NO {d:DKR}(hl:d.Len)(hS:Mp d=true)(hE:xB d=0){p:Rat}(hp:hq p 4):Slim d p:=by
 have sm:=Pe hS;obtain⟨hk,-,-⟩:=Jv (sm.ok hl) hE;simp only[Mp,Q9,NR,Pf,cm,kz,decide_eq_false_iff_not,ct]at hS;obtain⟨⟨⟨⟨⟨h1,h2⟩,-⟩,h3⟩,h4⟩,-⟩:=hS;have hn:=hk.n;have hm:=hk.m;refine⟨sm.ok hl,hE,J,J,fun t ht=>?_,sm.b,hp⟩;have:=h2 t ht;simp only[EM,kz,decide_eq_false_iff_not]at this;have:=(hk.st t ht).n;omega
def EP (d:DKR)(p z u:Rat)(t:ST):Rat:=wQ t*nw t (aZ (z+p) u t)*((fJ d:Rat)/1000000000)
def BH (d:DKR)(p z u:Rat):List (Int × Rat):=d.s.st.map (fun t=>(t.x,EP d p z u t))++(d.s.light::d.s.it).map nh++mW d.bl ((vQ d p z u).take d.bl.length)
theorem Fy {d:DKR}(hst:∀t∈d.s.st,StOk t)(p z u:Rat):(vQ d p z u).drop d.bl.length=d.s.st.map (EP d p z u):=by
 rw[vQ,dC,bj,tU (by rw[aF,df,aF];exact aY),jn (by rw[aF,df,aF];exact aY),k9,eH,dU,dU];exact da fun t ht=>s_ (hst t ht) p z u
theorem A4 (d:DKR)(p z u:Rat):(vQ d p z u).take d.bl.length=d.bl.map fun b=>fQ (lw d.s.st b) z u:=by
 rw[vQ,dC,bj,zD (by rw[aF,df,aF];exact aY),cT (by rw[aF,df,aF];exact aY),df,dU];rfl
theorem y8 (g:BKR->Rat):∀bl:List BKR,mW bl (bl.map g)=bl.map fun b=>(b.x,g b)
 |[]=>rfl
 |b::bl=>by
  have ih:=y8 g bl;rw[mW]at ih ⊢;rw[cn,q9,cn,ih,cn]
theorem Ka:∀l:List LR,aX (l.map fun w=>((-w.m:Int):Rat)) = -((sM l:Int):Rat)
 |[]=>by show(0:Rat) = -((0:Int):Rat);grind
 |w::l=>by
  have e:sM (w::l)=w.m+sM l:=by rw[sM,sM,cn,List.sum_cons]
  rw[cn,gZ,Ka l,e,k8,Ai];grind
theorem J_:∀l:List LR,aX (l.map fun w=>((-w.m:Int):Rat)*(w.x:Rat)) = -((sX l:Int):Rat)
 |[]=>by show(0:Rat) = -((0:Int):Rat);grind
 |w::l=>by
  have e:sX (w::l)=w.m*w.x+sX l:=by rw[sX,sX,cn,List.sum_cons]
  rw[cn,gZ,J_ l,e,k8,gd,Ai];grind
theorem PU {d:DKR}{p z u:Rat}(hst:∀t∈d.s.st,StOk t)(hs:Stood d p z u):aX ((BH d p z u).map Prod.snd)=0:=by
 have h1:=pW hs;rw[A4,Fy hst]at h1;rw[BH,A4,y8,bj,bj,wX,wX,dU,dU,dU];have h2:=Ka (d.s.light::d.s.it);show aX (d.s.st.map (EP d p z u))+aX ((d.s.light::d.s.it).map fun w=>((-w.m:Int):Rat))+aX (d.bl.map fun b=>fQ (lw d.s.st b) z u)=0;rw[h2];grind
theorem PT {d:DKR}{p z u:Rat}(hst:∀t∈d.s.st,StOk t)(hs:Stood d p z u)(hm:1<=sM (d.s.light::d.s.it)):aX ((BH d p z u).map fun y=>y.2*(y.1:Rat))=0:=by
 have hG:(bd (dB d p)).G0 z u=(bd (dB d p)).w*(bd (dB d p)).A:=hs.bal.2;have e1:(bd (dB d p)).G0 z u=aX ((dC d p).map fun s=>fQ s z u*(s.x:Rat)):=by
  have h:=Dc (l:=dC d p) (g:=fun s=>fQ s z u*(s.x:Rat)) (dC d p).length (aY);rw[cT (by rw[aF];exact aY)]at h;exact h.symm
 have e3:(d.s.st.map fun t=>fQ (ri p (iq (fJ d) t)) z u*(t.x:Rat))=d.s.st.map fun t=>EP d p z u t*(t.x:Rat):=da fun t ht=>by rw[s_ (hst t ht)];rfl
 have e2:aX ((dC d p).map fun s=>fQ s z u*(s.x:Rat))=aX (d.bl.map fun b=>fQ (lw d.s.st b) z u*(b.x:Rat))+aX (d.s.st.map fun t=>EP d p z u t*(t.x:Rat)):=by
  rw[<-e3,dC,bj,wX,df,eH,dU,dU,dU];rfl
 have e4:(bd (dB d p)).w*(bd (dB d p)).A=((sX (d.s.light::d.s.it):Int):Rat):=by
  show((sM (d.s.light::d.s.it):Int):Rat)*(ofQ (qX d.s)).val=_;rw[ofQ_val,qX,Rat.mul_comm,lG];exact fun e=>by have:=Rat.intCast_eq_zero_iff.1 e;omega
 have h2:=J_ (d.s.light::d.s.it);rw[BH,A4,y8,bj,bj,wX,wX,dU,dU,dU];show aX (d.s.st.map fun t=>EP d p z u t*(t.x:Rat))+aX ((d.s.light::d.s.it).map fun w=>((-w.m:Int):Rat)*(w.x:Rat))+aX (d.bl.map fun b=>fQ (lw d.s.st b) z u*(b.x:Rat))=0;rw[h2];rw[e1,e2,e4]at hG;grind
theorem Lo {X:Int}:∀ {L:List (Int × Rat)},(∀y∈L,y.1<=X)->gK L X=aX (L.map Prod.snd)/\iK L X=(X:Rat)*aX (L.map Prod.snd)-aX (L.map fun y=>y.2*(y.1:Rat))
 |[],_=>⟨rfl,by show(0:Rat)=(X:Rat)*0-0;grind⟩
 |y::L,h=>by
  obtain⟨i1,i2⟩:=Lo (L:=L) fun z hz=>h z (ff _ hz);have hy:=h y ez;have e1:gK (y::L) X=Ln X y+gK L X:=by rw[gK,cn,gZ];rfl
  have e2:iK (y::L) X=Mm X y+iK L X:=by rw[iK,cn,gZ];rfl
  rw[e1,e2,i1,i2,Ln,if_pos hy,Mm,if_pos hy,cn,cn,gZ,gZ,Rat.intCast_sub];exact⟨O,bP⟩
theorem wo (L:List (Int × Rat))(X:Int):cZ (nj L) X=cZ L X:=by rw[cZ,cZ,Lm (nV L),Kl (nV L)]
theorem Ao (L:List (Int × Rat))(x:Int):x∈lJ ((nj L).map Prod.fst)↔x∈L.map Prod.fst:=by
 rw[Nd (AU L)];exact((nV L).map Prod.fst).mem_iff
theorem NY {L:List (Int × Rat)}(hne:L≠[])(h0:aX (L.map Prod.snd)=0)(h1:aX (L.map fun y=>y.2*(y.1:Rat))=0):1<=(tI L).length/\∃X:Int,(tI L)[(tI L).length-1]?=some (X,0,0):=by
 have hasc:=Gq (AU L);have hmem:=Ao L;rw[tI];generalize lJ ((nj L).map Prod.fst)=P at *
 obtain⟨y,hy⟩:∃y,y∈L:=FX L hne;have hyP:y.1∈P:=(hmem y.1).2 (aW.2 ⟨y,hy,O⟩);have hP1:1<=P.length:=List.length_pos_of_mem hyP;obtain⟨X,hX⟩:=ay (show P.length-1<P.length by omega);have hlast:P.getLast? = some X:=by rw[qT];exact hX
 have hle:∀w∈L,w.1<=X:=fun w hw=>BW hasc hlast _ ((hmem w.1).2 (aW.2 ⟨w,hw,O⟩));obtain⟨s1,s2⟩:=Lo hle;refine⟨by rw[aF];exact hP1,X,?_⟩;rw[aF,bw,hX];show some (cZ (nj L) X)=_;rw[wo,cZ,s1,s2,h0,h1];refine congrArg some (Prod.ext O (Prod.ext O ?_));show(X:Rat)*0-0=0;grind
theorem MF {v:List Rat}:∀ {bl:List BKR},v.length=bl.length->(mW bl v).map Prod.fst=bl.map (·.x):=by
 induction v with
 |nil=>intro bl h;cases bl with
  |nil=>rfl
  |cons b bl=>simp at h
 |cons q v ih=>intro bl h;cases bl with
  |nil=>simp at h
  |cons b bl =>
   have:=ih (bl:=bl) (by simpa using h);rw[mW]at this ⊢;rw[q9,cn,cn,this,cn]
theorem QP (d:DKR)(p z u:Rat):tI (BH d p z u)=(Qk d.s.st (d.s.light::d.s.it) d.bl).map (cZ (BH d p z u)):=by
 have hv:((vQ d p z u).take d.bl.length).length=d.bl.length:=by rw[bc,xg];omega
 have e:lJ ((nj (BH d p z u)).map Prod.fst)=Qk d.s.st (d.s.light::d.s.it) d.bl:=by
  refine Fc (Gq (AU _)) (nO _ (nO _ (nO _ .nil))) fun x=>?_;rw[Ao,Qk,so,i8,i8,i8,BH,bj,bj,dJ,dJ,MF hv,dU,dU];have e1:d.s.st.map (Prod.fst∘fun t=>(t.x,EP d p z u t))=d.s.st.map (·.x):=O;have e2:(d.s.light::d.s.it).map (Prod.fst∘nh)=(d.s.light::d.s.it).map (·.x):=O;rw[e1,e2];simp only[gx,or_false];grind
 rw[tI,e];exact da fun X _=>wo _ X
theorem LJ {t:ST}{v:Option ST}(h:ki t v=0):ki t none=0:=by
 have hp:=uL h;rw[ki.eq_def,if_pos hp]at h;rw[ki.eq_def,if_pos hp];cases v with
 |none=>exact h
 |some w =>
  simp only at h;split at h
  .exact h
  .rename_i g;exact absurd h g
theorem Lq {s:SHP}(h:f7 s=0):∀t∈s.st,ki t none=0:=by
 rw[f7]at h;split at h
 .split at h
  .split at h
   .rename_i g;intro t ht;obtain⟨i,hi⟩:=i5.1 ht;exact LJ (lU g i t hi)
   .rename_i g;exact absurd h g
  .exact absurd h Y
 .exact absurd h Y
theorem I9 (t:ST)(ok:StOk t)(h8:t.L.length<=8)(he:ki t none=0){y:Rat}{N:Nat}(hy:hq y N)(hN:N<=100000):aU 75 [.agg (eT t),.agg (eR (ofQ y))] (.tup [.agg (eR (ofQ (nw t y))),I 0]):=by
 have h1:aU 47 [.agg (eT t),.raw (.pointer none)] (I 0):=by
  have:=rH t (by have:=ok.n;omega) (by have:=ok.n;have:=ok.h;omega);rwa [he]at this
 have h2:=qN t ok h8 hy hN;generalize ofQ (nw t y)=A,ofQ (Ed t y)=M,ofQ y=Y0 at *
 clear he hy ok;obtain⟨tx,tw,tL,tH⟩:=t;refine aD Proofs.Tryz.func75 ?_;refine ax h1 ?_;refine G h2 ?_;exact cA
theorem Id (a b:Int)(ha:i64 a)(hb:i64 b)(h0:b≠0):aU 77 [I a,I b] (.tup [.agg (eR (ofQ ((a:Rat)/(b:Rat)))),I 0]):=by
 have h1:=sj a ha.1 ha.2;have h2:=sj b hb.1 hb.2;obtain⟨a1,a2⟩:=ha;obtain⟨b1,b2⟩:=hb;have h3:=fL (di a) (di b) (bK (kG J) Y) (bK (kG J) Y) (Ay h0);rw[c_,c_]at h3;generalize ofQ ((a:Rat)/(b:Rat))=R,di a=A,di b=B at *
 refine aD Proofs.Tryz.func77 ?_;refine H ?_;rw[decide_eq_false h0];refine G h1 ?_;refine G h2 ?_;refine G h3 ?_;exact cA
theorem Cx (d:DKR)(lv:RR)(x:DQ)(e:Int)(he:e≠0)(h21:aU 71 [.agg (fv d),.agg (eR lv)] (.tup [.agg (xq x),I e])):aU 27 [.agg (fv d),.agg (eR lv)] (.tup [.sl [],I e]):=by
 obtain⟨s,den,bl,zn,gm,oh⟩:=d;obtain⟨xlv,⟨az,at'⟩,xF,xup,xbu,⟨x1,x2,x3,x4⟩,xh,xp⟩:=x;refine aD Proofs.Tryz.func27 ?_;refine G h21 ?_;refine H ?_;rw[decide_eq_false he]
 (repeat ((fail_if_success (with_reducible refine fh ?_));refine wV O ?_))
 refine ao (Ghost.nilfs (t:=4) O) ?_;exact cA
theorem Da {d:DKR}{lv:RR}{z u:Rat}(hl:d.Len)(hS:Mp d=true)(h:Slim d lv.val)(hlv:lv.sz 4)(hs:Stood d lv.val z u) :
  ∃O0:List (Int × Rat × Rat),aU 27 [.agg (fv d),.agg (eR lv)] (.tup [.sl (O0.map gR),I 0])/\aU 31 [.agg (fv d),.agg (xq (NW d lv.val z u))] (.sl (O0.map gR))/\1<=O0.length/\O0.length<=100/\(∀e∈O0,(ofQ e.2.1).le 1000000000/\(ofQ e.2.2).le 1000000000)/\∃X:Int,O0[O0.length-1]?=some (X,0,0):=by
 obtain⟨hk,hd,hf⟩:=h.bd;have hE:=h.e;have ok:=lk (iT hf);have hO:=RM h.ok hE;have hsta:=Lq (iT hf);have hdn:=l_ hd;have h6:=h.st;have h5:=h.bl;have hz:=hs.hz;have ht:=hs.ht;have hp:HQ lv.val 4:=⟨h.p⟩;have hzp:HQ (z+lv.val) 24005:=@HQ.add _ _ 24000 4 hz hp;have hll:=xg d lv.val z u;have hv:((vQ d lv.val z u).take d.bl.length).length=d.bl.length:=by rw[bc];omega
 have hvq:∀q∈(vQ d lv.val z u).take d.bl.length,hq q 100000:=fun q hq=>cx (yX h hs q (dD hq)) Y;have hit:d.s.it.length<=8:=by
  have:=ok.n;simp only[Mp,Q9,NR,Pf,cm,kz,decide_eq_false_iff_not,ct]at hS;omega
 have hbx:∀b∈d.bl,-1000000<=b.x/\b.x<=1000000:=fun b hb=>⟨(hO.b b hb).1,(hO.b b hb).2.1⟩;have hm:∀w∈d.s.light::d.s.it,(0<=w.m/\w.m<=1000000000)/\(-1000000<=w.x/\w.x<=1000000):=fun w hw=>⟨(ok.ld w hw).m,(ok.ld w hw).x⟩;have hsq:∀t∈d.s.st,hq (EP d lv.val z u t) 100000:=fun t ht=>cx (yX h hs _ (lF (by rw[Fy hk.st];exact aW.2 ⟨t,ht,O⟩))) Y;have hFq:∀y∈d.s.st.map (fun t=>(t.x,EP d lv.val z u t))++(d.s.light::d.s.it).map nh,hq y.2 100000:=fun y hy=>by
  rcases dJ.1 hy with e|e
  .obtain⟨t,ht,rfl⟩:=aW.1 e;exact hsq t ht
  .obtain⟨w,hw,rfl⟩:=aW.1 e;obtain⟨⟨w1,w2⟩,-⟩:=hm w hw;have zm:Zb (-w.m):=aI J J;exact cx (HQ.int (z := -w.m)).ok Y
 have hFx:∀y∈d.s.st.map (fun t=>(t.x,EP d lv.val z u t))++(d.s.light::d.s.it).map nh,-1000000<=y.1/\y.1<=1000000:=fun y hy=>by
  rcases dJ.1 hy with e|e
  .obtain⟨t,ht,rfl⟩:=aW.1 e;exact(hk.st t ht).x
  .obtain⟨w,hw,rfl⟩:=aW.1 e;exact(hm w hw).2
 have hLn:(BH d lv.val z u).length<=20:=by
  rw[BH,bQ,bQ,aF,aF,dl,DF hv];omega
 have hLq:∀y∈BH d lv.val z u,hq y.2 100000:=fun y hy=>by
  rcases dJ.1 hy with e|e
  .exact hFq y e
  .obtain⟨w,hw,rfl⟩:=aW.1 e;exact hvq _ (un hw).2
 have hLx:∀y∈BH d lv.val z u,-1000000<=y.1/\y.1<=1000000:=fun y hy=>by
  rcases dJ.1 hy with e|e
  .exact hFx y e
  .obtain⟨w,hw,rfl⟩:=aW.1 e;exact hbx _ (un hw).1
 have va:Va ⟨ofQ (z+lv.val),ofQ u⟩ (z+lv.val) u 24005 20000:=⟨Vq.ofQ (h:=hzp),Vq.ofQ (h:=ht)⟩;have himm:∀t∈d.s.st,hq (aZ (z+lv.val) u t) 50000:=fun t ht'=>by
  have hx:=(hk.st t ht').x;have zx:Zb t.x:=aI J J;exact cx (@HQ.add _ _ 24005 (20000+4) hzp (@HQ.mul _ _ 20000 4 ht HQ.int)).ok Y
 have p47:=KG d lv (NW d lv.val z u) (ofQ (z+lv.val)) ((vQ d lv.val z u).take d.bl.length) (EP d lv.val z u) hv O ⟨hLn,hLx,hLq⟩ hO ⟨J,J⟩ (fun w hw=>(hm w hw).1)
  (Py (hlv:=hlv.v) Y hl h hs) (eJ (ofQ z) lv (hx:=Vq.ofQ (h:=hz)) (hy:=hlv.v) Y Y) fun t ht'=>by
   have hx:=(hk.st t ht').x;have hw:=(hk.st t ht').w;have hi:=himm t ht';have e1:0<=t.w*d.d:=iU J J;have e2:t.w*d.d<=100000*1100:=oC hw.2 hd.2 J Y;have zw:Zb (t.w*d.d):=aI J J
   have hvA:Vq (ofQ (nw t (aZ (z+lv.val) u t))) (nw t (aZ (z+lv.val) u t)) 500000:=Vq.ofQ (h:=(xR (hk.st t ht') hi t.H0.length).mono (by have:=(hk.st t ht').h;have:=h.L t ht';have:t.H0.length<=7:=J;calc t.H0.length*(50000+14)+4<=7*(50000+14)+4:=J
     _<=500000:=by decide))
   have hvU:Vq (ofQ (((t.w*d.d:Int):Rat)/((1000000000:Int):Rat))) (((t.w*d.d:Int):Rat)/((1000000000:Int):Rat)) _:=Vq.ofQ (h:=@HQ.div _ _ 4 4 HQ.int (@HQ.int 1000000000 (aI Y Y)));refine⟨_,_,_,vU ⟨ofQ (z+lv.val),ofQ u⟩ t.x ⟨J,J⟩ (ha:=va) Y Y,I9 t (hk.st t ht') (h.L t ht') (hsta t ht') hi Y,Id (t.w*d.d) 1000000000 ⟨J,J⟩ ⟨Y,Y⟩ Y,?_⟩;have k4:=iE _ _ (hx:=hvA) (hy:=hvU) Y Y;have e3:nw t (aZ (z+lv.val) u t)*(((t.w*d.d:Int):Rat)/((1000000000:Int):Rat))=EP d lv.val z u t:=by
    rw[EP,wQ,<-hdn,gd,show(((fJ d:Nat):Int):Rat)=((fJ d:Nat):Rat) from O,show((1000000000:Int):Rat)=1000000000 from O];grind
   rw[e3]at k4;exact k4
 have k112:=Ip d.s ⟨ofQ (z+lv.val),ofQ u⟩ d.d (EP d lv.val z u) (fun t ht'=>(hk.st t ht').x) h6 hit hm hFq fun t ht'=>by
  have hx:=(hk.st t ht').x;have hw:=(hk.st t ht').w;have hi:=himm t ht';have zw:Zb t.w:=aI J J
  have hvA:HQ (nw t (aZ (z+lv.val) u t)) 500000:=(xR (hk.st t ht') hi t.H0.length).mono (by have:=(hk.st t ht').h;have:=h.L t ht';have:t.H0.length<=7:=J;calc t.H0.length*(50000+14)+4<=7*(50000+14)+4:=J
     _<=500000:=by decide)
  have k4:=b9 (ofQ (t.w:Rat)) (ofQ (nw t (aZ (z+lv.val) u t))) (hx:=Vq.ofQ (h:=HQ.int)) (hy:=Vq.ofQ (h:=hvA)) Y Y;have k5:=sH (ofQ ((t.w:Rat)*nw t (aZ (z+lv.val) u t))) (hx:=Vq.ofQ (h:=@HQ.mul _ _ 4 500000 HQ.int hvA)) Y (fJ d) J J;rw[hdn]at k5;exact⟨_,_,_,_,cf t.w ⟨J,J⟩,l6 ⟨ofQ (z+lv.val),ofQ u⟩ t.x ⟨J,J⟩ (ha:=va) Y Y,sC t (hk.st t ht') (h.L t ht') hi Y,k4,k5⟩
 have hPn:(so d.s.st (d.s.light::d.s.it)).length<=15:=by
  have h1:=io ((d.s.light::d.s.it).map (·.x)) [];have h2:=io (d.s.st.map (·.x)) (dI [] ((d.s.light::d.s.it).map (·.x)));simp only[aF,j7,dl]at h1 h2;rw[so];omega
 have hPm:∀x,x∈so d.s.st (d.s.light::d.s.it)↔(x∈d.s.st.map (·.x)\/x∈(d.s.light::d.s.it).map (·.x)):=fun x=>by rw[so,i8,i8];simp only[gx,or_false]
 have hPx:∀x∈so d.s.st (d.s.light::d.s.it),-1000000<=x/\x<=1000000:=fun x hx=>by
  rcases(hPm x).1 hx with e|e
  .obtain⟨t,ht,rfl⟩:=aW.1 e;exact(hk.st t ht).x
  .obtain⟨w,hw,rfl⟩:=aW.1 e;exact(hm w hw).2
 have p48:=Iq d (NW d lv.val z u) (ofQ (z+lv.val)) (so d.s.st (d.s.light::d.s.it)) (d.s.st.map (fun t=>(t.x,EP d lv.val z u t))++(d.s.light::d.s.it).map nh) ((vQ d lv.val z u).take d.bl.length) hPn hPx (nO _ (nO _ .nil))
  (fun y hy=>(hPm _).2 (by
   rcases dJ.1 hy with e|e
   .obtain⟨t,ht,rfl⟩:=aW.1 e;exact .inl (aW.2 ⟨t,ht,O⟩)
   .obtain⟨w,hw,rfl⟩:=aW.1 e;exact .inr (aW.2 ⟨w,hw,O⟩)))
  hv h5 hbx O (by rw[bQ,aF,aF,dl];omega) hFq hvq
  (by
   have:=b8 (ofQ z) (ofQ lv.val) (hx:=Vq.ofQ (h:=hz)) (hy:=Vq.ofQ (h:=hp)) Y Y
   exact this) k112
 have hq0:1<=sM (d.s.light::d.s.it):=ok.m;obtain⟨g1,g2⟩:=NY (L:=BH d lv.val z u) (by rw[BH];simp) (PU hk.st hs) (PT hk.st hs hq0);have hlen:(tI (BH d lv.val z u)).length<=20:=by
  have:=Gr ((nj (BH d lv.val z u)).map Prod.fst);rw[aF,AV]at this;rw[tI,aF];omega
 refine⟨tI (BH d lv.val z u),p47,?_,g1,J,fun e he=>?_,g2⟩
 .rw[QP];exact p48
 .rw[tI]at he;obtain⟨X,hX,rfl⟩:=aW.1 he;obtain⟨y,hy,rfl⟩:=aW.1 ((Ao _ X).1 hX);rw[wo];exact⟨Kb (yM hLq) J,Kb (yj hLq hLx (hLx y hy)) J⟩
set_option maxHeartbeats 4000000 in
theorem strength_law (d:DKR)(hl:d.Len)(lv:RR):aU 5 [.agg (fv d),.agg (eR lv)] (.bool true):=by
 have a:=DC;have s:=NQ d;have f:aU 26 [.agg (eR lv),I (3:Nat)] (.bool (QH lv 3)):=wL lv 3 Y;cases hS:Mp d with
 |false =>
  rw[hS]at s;refine aD Proofs.Tryz.func5 ?_;refine ax a ?_;refine ax s ?_;exact kU
 |true =>
 rw[hS]at s;cases hF:QH lv 3 with
 |false =>
  rw[hF]at f;refine aD Proofs.Tryz.func5 ?_;refine ax a ?_;refine ax s ?_;refine ax f ?_;exact kU
 |true =>
 rw[hF]at f;have hlv:lv.sz 3:=by
  simp only[QH,cm,decide_eq_true_eq]at hF;exact hF
 have hlv4:lv.sz 4:=yV hlv Y;have sm:=Pe hS;have ok:=sm.ok hl;have cp:=Hf d sm;have r:=CM d ok;by_cases hE:xB d=0
 .have h1:Slim d lv.val:=NO hl hS hE (by
   obtain⟨a,b,e,h0,h1,h2⟩:=Mf hlv Y;rw[e]
   exact cx (lD h0 h1 h2) Y)
  rw[hE]at r;by_cases he:(fX (dB d lv.val)).e=0
  .obtain⟨z,u,hs⟩:=Sj h1 he;obtain⟨O0,p47,p48,o1,o2,ole,X,hX⟩:=Da hl hS h1 hlv4 hs;have p23:=EU hl h1 hlv4 hs;have hOl:(O0.map gR).length=O0.length:=aF _;generalize NW d lv.val z u=x at *
   clear sm ok hlv hlv4 h1 hs he;obtain⟨xlv,⟨az,at'⟩,xF,xup,xbu,⟨x1,x2,x3,x4⟩,xh,xp⟩:=x;refine aD Proofs.Tryz.func5 ?_;refine ax a ?_;refine ax s ?_;refine ax f ?_;refine H ?_;refine bL [] [] aH ?_;refine G cp ?_;refine G p47 ?_;refine ax r ?_;refine G p23 ?_;refine G p48 ?_;refine H ?_;rw[decide_eq_true (show(((O0.map gR).length:Nat):Int)=((O0.map gR).length:Nat) from O)];refine H ?_;rw[decide_eq_false (show ¬(((O0.map gR).length:Nat):Int)=0 by rw[hOl];omega)];refine H ?_;refine aQ [(5,.sl (O0.map gR)),(11,.sl (O0.map gR)),(12,I ((0:Nat):Int))] [] ah ?_;intro s1;refine ai (fun i:Nat=>i<=O0.length) (fun i=>[(5,.sl (O0.map gR)),(11,.sl (O0.map gR)),(12,I (i:Nat))]) (fun _=>[]) (fun i=>O0.length-i) 0 (aP _) ah ?_;intro i s2 hi;refine H ?_;rw[hOl];refine aV O ?_ ?_<;>intro h
   .have hlt:i<O0.length:=cw h;clear h;obtain⟨e,hx⟩:=ay hlt;have hw:=dN i;obtain⟨q1,q2⟩:=ole e (bC hx);have e1:=oN (ofQ e.2.1) q1;have e2:=oN (ofQ e.2.2) q2;obtain⟨ex,ea,eb⟩:=e;simp only at e1 e2;have hrw:gR (ex,ea,eb)=I ex::(eR (ofQ ea)++eR (ofQ eb)):=O;generalize ofQ ea=EA,ofQ eb=EB at *
    refine cV 20 ?_;refine bL [] [] aH ?_;refine aN hx ?_;rw[hrw];refine aN hx ?_;rw[hrw];refine H ?_;rw[decide_eq_true (show ex=ex from O)];refine aN hx ?_;rw[hrw];refine aN hx ?_;rw[hrw];refine ax e1 ?_;refine aN hx ?_;rw[hrw];refine aN hx ?_;rw[hrw];refine ax e2 ?_;refine H ?_;exact⟨i+1,hlt,J,O,O,congrArg I hw,bh⟩
   .clear h;have hsub:IntKind.i64.wrap ((O0.length:Int)-1)=((O0.length-1:Nat):Int):=by rw[wrap_i64 J J];omega
    have sg:=gD (ofQ 0) (hx:=Vq.ofQ (h:=⟨PX⟩)) Y;rw[show sgn (0:Rat)=0 from(gi 0).2 O]at sg;have hrw:gR (X,0,0)=I X::(eR (ofQ 0)++eR (ofQ 0)):=O;generalize ofQ 0=Z0 at *
    refine H ?_;rw[hOl,hsub];refine tp O O O O O O O hX O ?_;rw[hrw];refine ax sg ?_;refine H ?_;rw[hOl,hsub];refine tp O O O O O O O hX O ?_;rw[hrw];refine ax sg ?_;exact kU
  .have p23:=ET h1 hlv4 he;have p47:=Cx d lv dZ _ he (Px (hlv:=hlv.v) Y hl h1 he);generalize (fX (dB d lv.val)).e=e at *
   clear sm ok hlv hlv4 h1;refine aD Proofs.Tryz.func5 ?_;refine ax a ?_;refine ax s ?_;refine ax f ?_;refine H ?_;refine bL [] [] aH ?_;refine G cp ?_;refine G p47 ?_;refine ax r ?_;refine G p23 ?_;refine H ?_;rw[decide_eq_true (show e=e from O)];refine H ?_;rw[decide_eq_false he];exact kU
 .have p47:=Cx d lv dZ _ hE (Pz d ok hE lv);generalize xB d=E at *
  clear sm ok hlv hlv4;refine aD Proofs.Tryz.func5 ?_;refine ax a ?_;refine ax s ?_;refine ax f ?_;refine H ?_;refine bL [] [] aH ?_;refine G cp ?_;refine G p47 ?_;refine ax r ?_;refine H ?_;rw[decide_eq_false hE];refine H ?_;rw[decide_eq_true (show E=E from O)];exact kU
end Go.Pv
