/- Texts of one hand, gathered: DlI, DkY, DkZ, DlC, DlB, DlA, DlFa, DlJ, DlK. -/
import Derived.Test.YtmfjgnchaacgnaaGreatBa5
set_option maxRecDepth 20000
set_option linter.unusedSectionVars false
set_option linter.unusedSimpArgs false
set_option linter.unusedVariables false
set_option linter.unnecessarySimpa false
set_option maxHeartbeats 2000000
namespace Go.Pv
attribute [local irreducible] PWP POps PQuiet PSem aw aq ai aj
open Go.Proofs
structure Stood (d:DKR) (p z t:Rat):Prop where
 e:ci (dB d p)=0
 bal:(bd (dB d p)).Bal z t
 hz:HQ z 24000
 ht:HQ t 20000
 s:fH (dB d p)=⟨⟨ofQ z,ofQ t⟩,FL (bX d p) z t,zA,0⟩
theorem Kn {d:DKR}{p:Rat}(h:Slim d p)(he:(fH (dB d p)).e=0):∃z t,Stood d p z t:=by
 rw[fH]at he;split at he
 .rename_i h0;split at he
  .contradiction
  .rename_i h1;split at he
   .exact absurd (show(13:Int)=0 from he) Y
   .rename_i h2;split at he
    .exact absurd (show(14:Int)=0 from he) Y
    .rename_i h3;obtain⟨hb,hs,-⟩:=(jQ h).1.2 h0;have hn:lz (dB d p):=⟨by simpa using h1,fun r hr=>by
      have:=List.find?_eq_none.1 h2 r hr
      simpa using this⟩
     obtain⟨-,hbal,hz,ht⟩:=oU hb hs hn;refine⟨_,_,h0,hbal,hz,ht,?_⟩;rw[fH,if_pos h0,if_neg h1,h2];simp only;rw[if_neg h3];rfl
 .rename_i h0;exact absurd he h0
def vQ (d:DKR)(p z t:Rat):List Rat:=(bX d p).map fun s=>fQ s z t
theorem Jj (d:DKR)(p z t:Rat):FL (bX d p) z t=(vQ d p z t).map ofQ:=by rw[FL,vQ,List.map_map];rfl
theorem EV (d:DKR)(p z t:Rat):(vQ d p z t).length=d.bl.length+d.s.st.length:=by rw[vQ,List.length_map,gG]
theorem vU {l:List SR}{g:SR->Rat}:∀n,n<=l.length->bF ((l.map g).take n)=am (fun i=>g (l.getD i dS)) n:=by
 intro n
 induction n with
 |zero=>intro _;rfl
 |succ n ih =>
  intro hn;have hx:(l.map g)[n]? = some (g (l.getD n dS)):=by rw[List.getElem?_map,bi (d:=dS) J];rfl
  rw[bC hx,ni,ih J,am]
theorem vT (a b:List Rat):bF (a++b)=bF a+bF b:=by
 have key:∀(l:List Rat) (x:Rat),l.foldl (·+·) x=x+l.foldl (·+·) 0:=by
  intro l
  induction l with
  |nil=>intro x;simp only[List.foldl_nil];grind
  |cons y l ih=>intro x;rw[List.foldl_cons,List.foldl_cons,ih (x+y),ih (0+y)];grind
 rw[bF,bF,bF,List.foldl_append,key]
theorem xW (v:List Rat)(n:Nat):bF (v.take n)+bF (v.drop n)=bF v:=by rw[<-vT,List.take_append_drop]
theorem ET (d:DKR)(p z t:Rat):bF ((vQ d p z t).take d.bl.length)=am ((bd (dB d p)).f z t) d.bl.length :=
 vU (l:=bX d p) (g:=fun s=>fQ s z t) _ (by rw[gG];omega)
theorem E7 {d:DKR}{p z t:Rat}(h:(bd (dB d p)).Bal z t):bF (vQ d p z t)=(dB d p).w:=by
 have h1:=vU (l:=bX d p) (g:=fun s=>fQ s z t) (bX d p).length (aP);rw[List.take_of_length_le (by rw[List.length_map];exact aP)]at h1;exact h1.trans h.1
theorem Stood.okB {d:DKR}{p z t:Rat}(h:Slim d p)(hs:Stood d p z t):(dB d p).Ok:=((jQ h).1.2 hs.e).1
theorem EU {d:DKR}{p z t:Rat}(h:Slim d p)(hs:Stood d p z t):∀q∈vQ d p z t,hq q 50000:=by
 have hb:=hs.okB h;intro q hq;obtain⟨i,hi⟩:=List.mem_iff_getElem?.1 hq;have hil:i<(dB d p).l.length:=by
  have:=(bb hi).1;rw[vQ,List.length_map]at this;exact this
 have hq:q=(bd (dB d p)).f z t i:=by
  rw[vQ,List.getElem?_map,bi (l:=bX d p) (d:=dS) hil]at hi;exact(Option.some.inj hi).symm
 have hp:=CY hb z t;rw[hq,Bd.f_at (il hb) hp hil,Bd.y];have e:(bd (dB d p)).k ((bd (dB d p)).pR z t) i*((bd (dB d p)).C i+(z+t*(bd (dB d p)).X i))-(bd (dB d p)).o ((bd (dB d p)).pR z t) i=(bd (dB d p)).k ((bd (dB d p)).pR z t) i*(z+t*(bd (dB d p)).X i)+((bd (dB d p)).k ((bd (dB d p)).pR z t) i*(bd (dB d p)).C i-(bd (dB d p)).o ((bd (dB d p)).pR z t) i):=aW;rw[e];have k1:=As hb ((bd (dB d p)).pR z t) hil;have k2:=EY hb hil;have k3:=C7 hb (p:=(bd (dB d p)).pR z t) (fun i hi=>(hp i hi).1) hil;have hz:=hs.hz;have ht:=hs.ht;exact((@HQ.add _ _ _ _ (@HQ.mul _ _ _ _ k1 (@HQ.add _ _ _ _ hz (@HQ.mul _ _ _ _ ht k2))) k3).mono Y).ok
theorem HR {d:DKR}{p z t:Rat}(h:Slim d p)(hs:Stood d p z t):∀q∈vQ d p z t,0<=q:=by
 have hb:=hs.okB h;intro q hq;obtain⟨i,hi⟩:=List.mem_iff_getElem?.1 hq;have hil:i<(dB d p).l.length:=by
  have:=(bb hi).1;rw[vQ,List.length_map]at this;exact this
 have hq:q=(bd (dB d p)).f z t i:=by
  rw[vQ,List.getElem?_map,bi (l:=bX d p) (d:=dS) hil]at hi;exact(Option.some.inj hi).symm
 rw[hq];exact Bd.f_nn (il hb) hil
theorem zf {l:List Rat}(h:∀q∈l,0<=q):0<=bF l:=by
 induction l with
 |nil=>exact Rat.le_refl
 |cons x l ih =>
  rw[show x::l=[x]++l from O,vT];have h1:=h x ah;have h2:=ih fun q hq=>h q (by simp[hq]);have h3:bF [x]=x:=by show 0+x=x;grind
  grind
theorem HS {d:Nat}{t:ST}(ok:StOk t):(∀k,k<t.H0.length->(eG d t).k.m k=wQ t*((d:Rat)/1000000000)*qs t k)/\(eG d t).k.m t.H0.length=0:=by
 have hl:(t.H0.map (Bh d t.w)).length=t.H0.length:=List.length_map _;refine⟨fun k hk=>?_,?_⟩
 .show((ol d t).getD k RR.zero).val=_;have hx:(ol d t)[k]? = some (Bh d t.w (t.H0.getD k 0)):=by rw[ol,List.getElem?_append_left J,List.getElem?_map,bi (d:=0) hk];rfl
  rw[List.getD_eq_getElem?_getD,hx];show(ofQ _).val=_;rw[ofQ_val,qs,wQ,Rat.intCast_mul,Rat.intCast_mul];grind
 .show((ol d t).getD t.H0.length RR.zero).val=_;have hx:(ol d t)[t.H0.length]? = some (ofQ 0):=by rw[ol,List.getElem?_append_right J,hl,Nat.sub_self];rfl
  rw[List.getD_eq_getElem?_getD,hx];show(ofQ 0).val=0;rw[ofQ_val]
theorem BD {d:Nat}{t:ST}(ok:StOk t)(y:Rat):∀j,j<=t.H0.length->am (h_ (eG d t).k.s (eG d t).k.m t.L.length y) j=wQ t*((d:Rat)/1000000000)*qg t y j:=by
 intro j
 induction j with
 |zero=>intro _;rw[am,qg];grind
 |succ j ih =>
  intro hj;have hL:=ok.h;rw[am,ih J,qg,h_,(HS (d:=d) ok).1 j J,vY,if_pos J];have hs:∀k,(eG d t).k.s k=dL t k:=fun k=>rfl;rw[hs,hs];have hlt:=sB ok (k:=j) J;have e:eF (sH y (dL t (j+1))-dL t j)=fb t y j:=by
   simp only[eF,sH,fb];grind
  rw[e];grind
theorem GW {d:Nat}{t:ST}(ok:StOk t)(y:Rat):fK t.L.length (eG d t).k.s (eG d t).k.m y=wQ t*((d:Rat)/1000000000)*tB t y:=by
 have ha:∀i,i+1<t.L.length->(eG d t).k.s i<(eG d t).k.s (i+1):=fun i hi=>sB ok hi;rw[fK,iQ ha,show t.L.length=t.H0.length+1 from ok.h.symm,am,h_,(HS (d:=d) ok).2,tB,<-BD (d:=d) ok y _ (aP),show t.H0.length+1=t.L.length from ok.h];grind
theorem BC {d:Nat}{t:ST}(ok:StOk t)(p z u:Rat):fQ (rc p (eG d t)) z u=wQ t*tB t (bY (z+p) u t)*((d:Rat)/1000000000):=by
 have e:yQ (rc p (eG d t)) z u=bY (z+p) u t:=by
  show(ofQ p).val+(z+u*(t.x:Rat))=_;rw[ofQ_val,bY];grind
 show fK t.L.length (eG d t).k.s (eG d t).k.m (yQ (rc p (eG d t)) z u)=_;rw[e,GW ok];grind
theorem ED (f:ST->Rat)(c:Rat)(l:List ST):aB (fun t=>f t*c) l=aB f l*c:=by
 have key:∀(l:List ST) (a b:Rat),a=b*c->l.foldl (fun a t=>a+f t*c) a=l.foldl (fun a t=>a+f t) b*c:=by
  intro l
  induction l with
  |nil=>intro a b h;exact h
  |cons t l ih=>intro a b h;rw[List.foldl_cons,List.foldl_cons];exact ih _ _ (by rw[h];grind)
 exact key l 0 0 aW
theorem Ie {d:DKR}(hst:∀t∈d.s.st,StOk t)(p z u:Rat):bF ((vQ d p z u).drop d.bl.length)=aB (fun t=>wQ t*tB t (bY (z+p) u t)) d.s.st*((fa d:Rat)/1000000000):=by
 have h1:(vQ d p z u).drop d.bl.length=d.s.st.map fun t=>wQ t*tB t (bY (z+p) u t)*((fa d:Rat)/1000000000):=by
  rw[vQ,bX,List.map_append,List.drop_append_of_le_length (by rw[List.length_map,cG,List.length_map];exact aP),List.drop_eq_nil_of_le (by rw[List.length_map,cG,List.length_map];exact aP),List.nil_append,dq,List.map_map,List.map_map];exact List.map_congr_left fun t ht=>BC (hst t ht) p z u
 rw[h1,bF,List.foldl_map,<-ED];rfl
def fw (l:List Rat):Rat:=l.foldl (·*·) 1
theorem xg (l:List Rat)(x:Rat):fw (l++[x])=fw l*x:=by rw[fw,List.foldl_append];rfl
theorem Gb {N:Nat}{l:List Rat}(h:∀q∈l,hq q N):hq (fw l) (N*l.length+4):=by
 have key:∀(l:List Rat) (a:Rat) (m:Nat),hq a m->(∀q∈l,hq q N)->hq (l.foldl (·*·) a) (m+N*l.length):=by
  intro l
  induction l with
  |nil=>intro a m ha _;simpa using ha
  |cons x l ih =>
   intro a m ha hl;rw[List.foldl_cons,List.length_cons];have:=ih (a*x) (m+N) (@HQ.mul a x m N ⟨ha⟩ ⟨hl x List.mem_cons_self⟩).ok fun q hq=>hl q (List.mem_cons_of_mem _ hq);rwa [show m+N+N*l.length=m+N*(l.length+1) by rw[Nat.mul_add];omega]at this
 have:=key l 1 4 HQ.one.ok h;rwa [Nat.add_comm]at this
set_option maxRecDepth 20000 in
theorem lu (v:List Rat)(N:Nat)(hv:∀q∈v,hq q N)(h5:v.length<=5)(hN:N<=3000000):Ret Tryz.prog .shared 195 [.sl ((v.map ofQ).map eR)] (.agg (eR (ofQ (fw v)))):=by
 have w1:=bZ 1 ⟨Y,Y⟩;rw[show((1:Int):Rat)=1 from O]at w1;have hml:((v.map ofQ).map eR).length=v.length:=ah;have hs:∀i,hq (fw (v.take i)) 15000004:=fun i=>by
  have:=Gb (N:=N) (l:=v.take i) fun q hq=>hv q (List.mem_of_mem_take hq);refine(HQ.mono (q:=fw (v.take i)) (h:=⟨this⟩) ?_).ok;have h1:(v.take i).length<=5:=by rw[List.length_take];omega
  have:=Nat.mul_le_mul hN h1;omega
 refine Ret.of_pwp layOk mixed Go.Proofs.Tryz.func195 O Y O O ?_;refine G w1 ?_;refine H ?_;rw[hml];refine bH [(2,.ptr 2 1 0 0),(3,.ptr 3 1 0 0),(7,.sl ((v.map ofQ).map eR)),(8,I v.length),(9,I ((0:Nat):Int))] [(2,1,⟨42,4,[zN],2⟩),(3,1,⟨42,4,[eR (ofQ 1)],2⟩)] ⟨O,O,O,O,O,O,O,trivial⟩ ?_;intro s0;refine ap (fun k:Nat=>k<=v.length) (fun k=>[(2,.ptr 2 1 0 0),(3,.ptr 3 1 0 0),(7,.sl ((v.map ofQ).map eR)),(8,I v.length),(9,I (k:Nat))]) (fun k=>[(2,1,⟨42,4,[zN],2⟩),(3,1,⟨42,4,[eR (ofQ (fw (v.take k)))],2⟩)]) (fun k=>v.length-k) 0 (Nat.zero_le _) ⟨O,O,O,O,O,O,O,trivial⟩ ?_;intro k s hk;refine D ?_ ?_<;>intro h
 .have hlt:k<v.length:=by have:=aC h;omega
  clear h;obtain⟨q,hq⟩:=aJ hlt;have hx:(v.map ofQ)[k]? = some (ofQ q):=by rw[List.getElem?_map,hq];rfl
  have e1:=eW (ofQ (fw (v.take k))) (ofQ q) (hx:=Vq.ofQ (h:=⟨hs k⟩)) (hy:=Vq.ofQ (h:=⟨hv q (bc hq)⟩)) Y J;have hsn:fw (v.take (k+1))=fw (v.take k)*q:=by rw[bC hq,xg]
  rw[<-hsn]at e1;have hw:=fc k;generalize ofQ (fw (v.take k))=P at *
  generalize hP2:ofQ (fw (v.take (k+1)))=P2 at *
  refine aS hx ?_;refine G e1 ?_;refine H ?_;exact⟨k+1,hlt,J,O,O,O,O,congrArg I hw,O,by rw[hP2];rfl,trivial⟩
 .have hge:k=v.length:=by have:=aG h;omega
  clear h;subst hge;rw[List.take_length];generalize ofQ (fw v)=P at *
  exact bV
theorem jI (p q:Rat)(N:Nat)(hp:hq p N)(hq':hq q N)(hN:N<=3000000):Ret Tryz.prog .shared 195 [.sl [eR (ofQ p),eR (ofQ q)]] (.agg (eR (ofQ (p*q)))):=by
 have h:=lu [p,q] N (fun x hx=>by
  simp only[List.mem_cons,List.not_mem_nil,or_false]at hx;rcases hx with rfl|rfl
  .exact hp
  .exact hq') ah hN
 rw[show fw [p,q]=p*q by show 1*p*q=_;rw[Rat.one_mul]]at h;exact h
theorem tu (p q r:Rat)(N:Nat)(hp:hq p N)(hq':hq q N)(hr:hq r N)(hN:N<=3000000):Ret Tryz.prog .shared 195 [.sl [eR (ofQ p),eR (ofQ q),eR (ofQ r)]] (.agg (eR (ofQ (p*q*r)))):=by
 have h:=lu [p,q,r] N (fun x hx=>by
  simp only[List.mem_cons,List.not_mem_nil,or_false]at hx;rcases hx with rfl|rfl|rfl
  .exact hp
  .exact hq'
  .exact hr) ah hN
 rw[show fw [p,q,r]=p*q*r by show 1*p*q*r=_;rw[Rat.one_mul]]at h;exact h
theorem I2 (p q r s t:Rat)(N:Nat)(hp:hq p N)(hq':hq q N)(hr:hq r N)(hs:hq s N)(ht:hq t N)(hN:N<=3000000):Ret Tryz.prog .shared 195 [.sl [eR (ofQ p),eR (ofQ q),eR (ofQ r),eR (ofQ s),eR (ofQ t)]] (.agg (eR (ofQ (p*q*r*s*t)))):=by
 have h:=lu [p,q,r,s,t] N (fun x hx=>by
  simp only[List.mem_cons,List.not_mem_nil,or_false]at hx;rcases hx with rfl|rfl|rfl|rfl|rfl
  .exact hp
  .exact hq'
  .exact hr
  .exact hs
  .exact ht) ah hN
 rw[show fw [p,q,r,s,t]=p*q*r*s*t by show 1*p*q*r*s*t=_;rw[Rat.one_mul]]at h;exact h
theorem uJ {t:ST}(ok:StOk t)(k:Nat):HQ (dL t k) 4:=by
 have:0<=t.L.getD k 0/\t.L.getD k 0<=100000:=by
  rcases Nat.lt_or_ge k t.L.length with h|h
  .exact ok.L _ (bc (bi (d:=0) h))
  .rw[List.getD_eq_getElem?_getD,List.getElem?_eq_none h];decide
 have z:Zb (t.L.getD k 0):=aK J J;exact HQ.int
theorem un {t:ST}(ok:StOk t)(k:Nat):0<=t.H0.getD k 0/\t.H0.getD k 0<=100000:=by
 rcases Nat.lt_or_ge k t.H0.length with h|h
 .exact ok.H0 _ (bc (bi (d:=0) h))
 .rw[List.getD_eq_getElem?_getD,List.getElem?_eq_none h];decide
theorem CS {t:ST}(ok:StOk t)(k:Nat):HQ (qs t k) 4:=by
 have:=un ok k;have z:Zb (2*t.H0.getD k 0):=aK J J;exact HQ.int
theorem wW {t:ST}(ok:StOk t){y:Rat}{N:Nat}(hy:hq y N)(k:Nat):HQ (fb t y k) (N+9):=by
 have a:=uJ ok k;have b:=uJ ok (k+1);rw[fb];split
 .exact HQ.zero.mono J
 .split
  .exact(@HQ.sub _ _ N 4 ⟨hy⟩ a).mono J
  .exact(@HQ.sub _ _ 4 4 b a).mono J
theorem B4 {t:ST}(ok:StOk t){y:Rat}{N:Nat}(hy:hq y N):∀k,HQ (qg t y k) (k*(N+14)+4)
 |0=>HQ.zero.mono J
 |k+1=>by
  rw[qg];exact(@HQ.add _ _ _ _ (B4 ok hy k) (@HQ.mul _ _ 4 _ (CS ok k) (wW ok hy k))).mono (by rw[Nat.add_mul];omega)
theorem De {t:ST}(ok:StOk t){y:Rat}{N:Nat}(hy:hq y N)(k:Nat):HQ (FR t y k) (2*N+40):=by
 have z:Zb 2:=aK Y Y;have l:=uJ ok k;have e:=wW ok hy k;rw[FR,show(2:Rat)=((2:Int):Rat) from O];exact(@HQ.div _ _ _ 4 (@HQ.mul _ _ _ _ (@HQ.mul _ _ 4 _ (CS ok k) e) (@HQ.add _ _ 4 _ l (@HQ.add _ _ 4 _ l e))) HQ.int).mono J
theorem Dg {t:ST}(ok:StOk t){y:Rat}{N:Nat}(hy:hq y N):∀k,HQ (sI t y k) (k*(2*N+41)+4)
 |0=>HQ.zero.mono J
 |k+1=>by
  rw[sI];exact(@HQ.add _ _ _ _ (Dg ok hy k) (De ok hy k)).mono (by rw[Nat.add_mul];omega)
set_option maxRecDepth 20000 in
theorem sw (t:ST)(ok:StOk t)(h8:t.L.length<=8){y:Rat}{N:Nat}(hy:hq y N)(hN:N<=100000):Ret Tryz.prog .shared 181 [.agg (eT t),.agg (eR (ofQ y))] (.agg (eR (ofQ (tB t y))++eR (ofQ (FQ t y)))):=by
 have w0:=bZ 0 ⟨Y,Y⟩;rw[show((0:Int):Rat)=0 from O]at w0;have w2:=bZ 2 ⟨Y,Y⟩;have hLH:=ok.h;have hmh:(t.H0.map eN).length=t.H0.length:=ah;have hHl:t.H0.length<=7:=J;have hlv:=uJ ok;have hfi:=un ok;have hfh:=CS ok;have hlen:=fun k=>wW ok hy k;have har:=fun k=>B4 ok hy k;have hmo:=fun k=>Dg ok hy k;have hmt:=fun k=>De ok hy k;have hdry:=fun k (hk:k<t.H0.length) (h:y<=dL t k)=>Ac ok hk h t.H0.length (Nat.le_of_lt hk) (aP);have hlvi:∀k,k<t.L.length->∃n,t.L[k]? = some n/\dL t k=((n:Int):Rat)/\i64 n:=fun k hk=>by
  have h0:t.L[k]? = some (t.L.getD k 0):=bi (d:=0) hk;have:=ok.L _ (bc h0);exact⟨_,h0,O,⟨J,J⟩⟩
 have hhi:∀k,k<t.H0.length->t.H0[k]? = some (t.H0.getD k 0):=fun k hk=>bi (d:=0) hk;have z2:Zb 2:=aK Y Y;rw[tB,FQ];refine Ret.of_pwp layOk mixed Go.Proofs.Tryz.func181 O Y O O ?_;refine G w0 ?_;refine G w0 ?_;refine H ?_;rw[hmh];refine bH [(2,.ptr 2 1 0 0),(3,.ptr 3 1 0 0),(4,.ptr 4 1 0 0),(5,.ptr 5 1 0 0),(15,.sl (t.H0.map eN)),(16,I t.H0.length),(17,I ((0:Nat):Int))] [(2,1,⟨130,4,[eT t],2⟩),(3,1,⟨42,4,[eR (ofQ y)],2⟩),(4,1,⟨246,8,[zN++zN],2⟩),(5,1,⟨246,8,[eR (ofQ 0)++eR (ofQ 0)],2⟩)] ⟨O,O,O,O,O,O,O,O,O,O,O,trivial⟩ ?_;intro s0;refine ap (fun k:Nat=>k<=t.H0.length) (fun k=>[(2,.ptr 2 1 0 0),(3,.ptr 3 1 0 0),(4,.ptr 4 1 0 0),(5,.ptr 5 1 0 0),(15,.sl (t.H0.map eN)),(16,I t.H0.length),(17,I (k:Nat))]) (fun k=>[(2,1,⟨130,4,[eT t],2⟩),(3,1,⟨42,4,[eR (ofQ y)],2⟩),(4,1,⟨246,8,[zN++zN],2⟩),(5,1,⟨246,8,[eR (ofQ (qg t y k))++eR (ofQ (sI t y k))],2⟩)]) (fun k=>t.H0.length-k) 0 (Nat.zero_le _) ⟨O,O,O,O,O,O,O,O,O,O,O,trivial⟩ ?_;intro k s hk;refine D ?_ ?_<;>intro h
 .have hlt:k<t.H0.length:=by have:=aC h;omega
  clear h;have hx:=hhi k hlt;obtain⟨lo,hlo,hloq,hloi⟩:=hlvi k J;obtain⟨hi,hhii,hhiq,hhi64⟩:=hlvi (k+1) J;have hdr:=hdry k hlt;have q1:IntKind.i64.wrap (((k:Nat):Int)+1)=((k+1:Nat):Int):=by rw[wrap_i64 J J];omega
  have hfi:=hfi k;have q2:IntKind.i64.wrap (2*t.H0.getD k 0)=2*t.H0.getD k 0:=wrap_i64 J J;have a1:=bZ lo hloi;have a2:=bZ hi hhi64;rw[<-hloq]at a1;rw[<-hhiq]at a2;have c1:=i9 (ofQ y) (ofQ (dL t k)) (hx:=Vq.ofQ (h:=⟨hy⟩)) (hy:=Vq.ofQ (h:=hlv k)) J Y;have c2:=i9 (ofQ y) (ofQ (dL t (k+1))) (hx:=Vq.ofQ (h:=⟨hy⟩)) (hy:=Vq.ofQ (h:=hlv (k+1))) J Y;have s1:=pI (y-dL t k);have s2:=cP (y-dL t (k+1));have a3:=bZ (2*t.H0.getD k 0) ⟨J,J⟩;rw[show((2*t.H0.getD k 0:Int):Rat)=qs t k from O]at a3;refine aS hx ?_
  (repeat ((fail_if_success (with_reducible refine aQ 5 ?_));refine cx O ?_))
  refine fy [(13,8),(14,9),(15,8),(16,9)] aT aT ?_;refine aS hlo ?_;refine G a1 ?_;refine H ?_;rw[q1];refine bE O O (jz (n:=((((k+1:Nat):Int)):Int)) O O O O O J hhii O) ?_;refine G a2 ?_;refine H ?_;refine EZ O O O O O ?_;refine EZ O O O O O ?_;refine E0 2 O O O O O O (fun _=>rfl) aI O O O O ?_;refine E0 2 O O O O O O (fun _=>rfl) aI O O O O ?_;refine ar c1 ?_;refine D ?_ ?_<;>intro h
  .have hd:=hdr (by have:=s1.1 (aC h);grind);clear h;rw[<-hd.1,<-hd.2];generalize ofQ (qg t y t.H0.length)=E1 at *
   generalize ofQ (sI t y t.H0.length)=E2 at *
   exact bV
  have hy1:¬y<=dL t k:=fun e=>(aG h) (s1.2 aW);clear h hdr;have main:∀T:Rat,T=(if y<dL t (k+1) then y else dL t (k+1))->(hq T (N+5)/\T-dL t k=fb t y k/\FR t y k=qs t k*fb t y k*(dL t k+T)/2):=fun T hT=>by
   have e1:T-dL t k=fb t y k:=by rw[hT,fb,if_neg hy1];split<;>rfl
   refine⟨?_,e1,?_⟩
   .rw[hT];split
    .exact(HQ.mono (q:=y) (h:=⟨hy⟩) J).ok
    .exact(HQ.mono (h:=hlv (k+1)) J).ok
   .rw[FR,show dL t k+fb t y k=T by rw[<-e1];grind]
  obtain⟨T,hT⟩:∃T,T=if y<dL t (k+1) then y else dL t (k+1):=⟨_,O⟩
  obtain⟨hTq,hTl,hTm⟩:=main T hT;clear main;have hlk:=hlen k;have hhl:HQ (qs t k*fb t y k) (N+13):=(@HQ.mul _ _ 4 _ (hfh k) hlk).mono J;have hlt':HQ (dL t k+T) (N+10):=(@HQ.add _ _ 4 (N+5) (hlv k) ⟨hTq⟩).mono J;have hpr:HQ (qs t k*fb t y k*(dL t k+T)) (2*N+24):=(@HQ.mul _ _ _ _ hhl hlt').mono J;have a4:=jc (ofQ T) (ofQ (dL t k)) (hx:=Vq.ofQ (h:=⟨hTq⟩)) (hy:=Vq.ofQ (h:=hlv k)) J Y;rw[hTl]at a4;have a5:=jI (qs t k) (fb t y k) (N+9) ((hfh k).mono J).ok hlk.ok J;have hark:k*(N+14)<=7*(N+14):=Nat.mul_le_mul_right _ J;have hmok:k*(2*N+41)<=7*(2*N+41):=Nat.mul_le_mul_right _ J;have a6:=cJ (ofQ (qg t y k)) (ofQ (qs t k*fb t y k)) (hx:=Vq.ofQ (h:=har k)) (hy:=Vq.ofQ (h:=hhl)) J J;rw[show qg t y k+qs t k*fb t y k=qg t y (k+1) from O]at a6;have a7:=cJ (ofQ (dL t k)) (ofQ T) (hx:=Vq.ofQ (h:=hlv k)) (hy:=Vq.ofQ (h:=⟨hTq⟩)) Y J;have a8:=jI (qs t k*fb t y k) (dL t k+T) (N+13) hhl.ok (hlt'.mono J).ok J;have a9:=i8 (ofQ (qs t k*fb t y k*(dL t k+T))) (ofQ ((2:Int):Rat)) (hx:=Vq.ofQ (h:=hpr)) (hy:=Vq.ofQ (h:=HQ.int)) J Y aT;have hmd:HQ (qs t k*fb t y k*(dL t k+T)/2) (2*N+40):=by rw[<-hTm];exact hmt k
  rw[show((2:Int):Rat)=2 from O]at a9 w2;have a10:=cJ (ofQ (sI t y k)) (ofQ (qs t k*fb t y k*(dL t k+T)/2)) (hx:=Vq.ofQ (h:=hmo k)) (hy:=Vq.ofQ (h:=hmd)) J J;rw[<-hTm,show sI t y k+FR t y k=sI t y (k+1) from O]at a10;rw[hTm]at a10;clear hhl hlt' hpr hmd hlk hTq hTm hTl hark hmok;by_cases hyy:y<dL t (k+1)
  .rw[if_pos hyy]at hT;have hT:=hT.symm;subst hT;have hgy:sgn (y-dL t (k+1))<0:=s2.2 aW;generalize fb t y k=ln at *
   generalize qs t k=hf at *
   generalize dL t k=lq at *
   generalize hAR:ofQ (qg t y (k+1))=AR at *
   generalize hMO:ofQ (sI t y (k+1))=MO at *
   generalize ofQ (qg t y k)=AR0 at *
   generalize ofQ (sI t y k)=MO0 at *
   generalize ofQ y=TT at *
   generalize ofQ ln=LN at *
   generalize ofQ hf=HF at *
   generalize ofQ lq=LQ at *
   generalize ofQ (hf*ln)=HL at *
   generalize ofQ (lq+y)=LT at *
   generalize ofQ (hf*ln*(lq+y))=HLT at *
   generalize ofQ (hf*ln*(lq+y)/2)=HLD at *
   generalize ofQ 2=W2 at *
   refine ar c2 ?_;refine H ?_;rw[decide_eq_true hgy];refine H ?_
   (repeat ((fail_if_success (with_reducible refine aQ 9 ?_));refine cx O ?_))
   refine aE (fM 10) ?_;refine aZ 8 1 [44,45,46,47,48,49,50,51,10] [] aT O ?_;refine H ?_;rw[q2];refine nR O O O a3 O O ?_;refine G a4 ?_;refine H ?_;refine bE O O (cC O O O O O O O O O O aI O) ?_;refine G a5 ?_;refine G a6 ?_;refine H ?_;refine ca [] [5] 11 [11,12] aT aT ?_;refine G a7 ?_;refine H ?_;refine bE O O (cC O O O O O O O O O O aI O) ?_;refine G a8 ?_;refine G w2 ?_;refine G a9 ?_;refine G a10 ?_;refine H ?_;exact⟨k+1,hlt,J,O,O,O,O,O,O,congrArg I q1,O,O,O,by rw[hAR,hMO];rfl,trivial⟩
  .rw[if_neg hyy]at hT;have hT:=hT.symm;subst hT;have hgy:¬sgn (y-dL t (k+1))<0:=fun e=>hyy (by have:=s2.1 e;grind);generalize dL t (k+1)=T at *
   generalize fb t y k=ln at *
   generalize qs t k=hf at *
   generalize dL t k=lq at *
   generalize hAR:ofQ (qg t y (k+1))=AR at *
   generalize hMO:ofQ (sI t y (k+1))=MO at *
   generalize ofQ (qg t y k)=AR0 at *
   generalize ofQ (sI t y k)=MO0 at *
   generalize ofQ T=TT at *
   generalize ofQ ln=LN at *
   generalize ofQ hf=HF at *
   generalize ofQ lq=LQ at *
   generalize ofQ (hf*ln)=HL at *
   generalize ofQ (lq+T)=LT at *
   generalize ofQ (hf*ln*(lq+T))=HLT at *
   generalize ofQ (hf*ln*(lq+T)/2)=HLD at *
   generalize ofQ 2=W2 at *
   refine ar c2 ?_;refine H ?_;rw[decide_eq_false hgy];refine H ?_
   (repeat ((fail_if_success (with_reducible refine aQ 9 ?_));refine cx O ?_))
   refine aE (fM 10) ?_;refine aZ 8 1 [44,45,46,47,48,49,50,51,10] [] aT O ?_;refine H ?_;rw[q2];refine nR O O O a3 O O ?_;refine G a4 ?_;refine H ?_;refine bE O O (cC O O O O O O O O O O aI O) ?_;refine G a5 ?_;refine G a6 ?_;refine H ?_;refine ca [] [5] 11 [11,12] aT aT ?_;refine G a7 ?_;refine H ?_;refine bE O O (cC O O O O O O O O O O aI O) ?_;refine G a8 ?_;refine G w2 ?_;refine G a9 ?_;refine G a10 ?_;refine H ?_;exact⟨k+1,hlt,J,O,O,O,O,O,O,congrArg I q1,O,O,O,by rw[hAR,hMO];rfl,trivial⟩
 .have hge:k=t.H0.length:=by have:=aG h;omega
  clear h;subst hge;generalize ofQ (qg t y t.H0.length)=E1 at *
  generalize ofQ (sI t y t.H0.length)=E2 at *
  exact bV
theorem uj {t:ST}{y:Rat}{n k:Nat}:Ht t y (n+1) k=if dL t k<=y/\y<dL t (k+1) then t.H0.getD k 0 else Ht t y n (k+1):=rfl
theorem CQ {t:ST}(ok:StOk t)(y:Rat):0<=jT t y/\jT t y<=100000:=by
 have key:∀n k,0<=Ht t y n k/\Ht t y n k<=100000:=by
  intro n
  induction n with
  |zero=>intro k;exact⟨Int.le_refl _,by show(0:Int)<=100000;decide⟩
  |succ n ih =>
   intro k;rw[uj];split
   .exact un ok k
   .exact ih (k+1)
 exact key _ _
theorem yA (x:RR){p:Rat}{n:Nat}[hx:Vq x p n](hn:n<=8000000):Ret Tryz.prog .shared 241 [.agg (eR x)] (.bool (decide (p=0))):=by
 have w:=bZ 0 ⟨Y,Y⟩;rw[show((0:Int):Rat)=0 from O]at w;have c:=i9 x (ofQ 0) (hy:=Vq.ofQ (h:=HQ.zero)) hn Y;rw[Rat.sub_eq_add_neg,Rat.neg_zero,Rat.add_zero]at c;have hd:decide (p=0)=decide (sgn p=0):=decide_eq_decide.2 (gA p).symm;rw[hd];generalize ofQ 0=Z at *
 generalize sgn p=g at *
 refine Ret.of_pwp layOk mixed Go.Proofs.Tryz.func241 O Y O O ?_;refine cn 5 [3,4,5,6,2] ?_;refine G w ?_;refine ar c ?_;exact gV
set_option maxRecDepth 20000 in
theorem tO (t:ST)(ok:StOk t){y:Rat}{N:Nat}(hy:hq y N)(hN:N<=7000000):Ret Tryz.prog .shared 240 [.agg (eT t),.agg (eR (ofQ y))] (I (jT t y)):=by
 have hLH:=ok.h;have hLn:=ok.n;have hmh:(t.H0.map eN).length=t.H0.length:=ah;have hlv:=uJ ok;have hlvi:∀k,k<t.L.length->∃n,t.L[k]? = some n/\dL t k=((n:Int):Rat)/\i64 n:=fun k hk=>by
  have h0:t.L[k]? = some (t.L.getD k 0):=bi (d:=0) hk;have:=ok.L _ (bc h0);exact⟨_,h0,O,⟨J,J⟩⟩
 have hhi:∀k,k<t.H0.length->t.H0[k]? = some (t.H0.getD k 0):=fun k hk=>bi (d:=0) hk;generalize hR:jT t y=R;rw[jT]at hR;refine Ret.of_pwp layOk mixed Go.Proofs.Tryz.func240 O Y O O ?_;refine H ?_;rw[hmh];refine ap (fun k:Nat=>k<=t.H0.length/\Ht t y (t.H0.length-k) k=R) (fun k=>[(2,.ptr 2 1 0 0),(3,.ptr 3 1 0 0),(8,.sl (t.H0.map eN)),(9,I t.H0.length),(10,I (k:Nat))]) (fun k=>[(2,1,⟨130,4,[eT t],2⟩),(3,1,⟨42,4,[eR (ofQ y)],2⟩)]) (fun k=>t.H0.length-k) 0 ⟨Nat.zero_le _,hR⟩ ⟨O,O,O,O,O,O,O,trivial⟩ ?_;rintro k s ⟨hk,hall⟩;refine D ?_ ?_<;>intro h
 .have hlt:k<t.H0.length:=by have:=aC h;omega
  clear h;have hx:=hhi k hlt;obtain⟨lo,hlo,hloq,hloi⟩:=hlvi k J;obtain⟨hi,hhii,hhiq,hhi64⟩:=hlvi (k+1) J;have q1:IntKind.i64.wrap (((k:Nat):Int)+1)=((k+1:Nat):Int):=by rw[wrap_i64 J J];omega
  have a1:=bZ lo hloi;have a2:=bZ hi hhi64;rw[<-hloq]at a1;rw[<-hhiq]at a2;have c1:=i9 (ofQ y) (ofQ (dL t k)) (hx:=Vq.ofQ (h:=⟨hy⟩)) (hy:=Vq.ofQ (h:=hlv k)) J Y;have c2:=i9 (ofQ y) (ofQ (dL t (k+1))) (hx:=Vq.ofQ (h:=⟨hy⟩)) (hy:=Vq.ofQ (h:=hlv (k+1))) J Y;have s1:=Ee (y-dL t k);have s2:=cP (y-dL t (k+1));have e1:0<=y-dL t k↔dL t k<=y:=by constructor<;>intro h<;>grind
  have e2:y-dL t (k+1)<0↔y<dL t (k+1):=by constructor<;>intro h<;>grind
  rw[e1]at s1;rw[e2]at s2;rw[show t.H0.length-k=(t.H0.length-(k+1))+1 by omega,uj]at hall;generalize sgn (y-dL t k)=g1 at *
  generalize sgn (y-dL t (k+1))=g2 at *
  generalize ofQ (dL t k)=A1 at *
  generalize ofQ (dL t (k+1))=A2 at *
  generalize t.H0.getD k 0=h0 at *
  refine aS hx ?_;refine cn 21 [15,16,17,18,19,20,21,22,23,24,25,26,27,28,29,30,31,32,33,34,35] ?_;refine aS hlo ?_;refine G a1 ?_;refine ar c1 ?_;refine H ?_;by_cases d1:0<=g1
  rotate_left
  .rw[if_neg (fun e=>d1 (s1.2 e.1))]at hall;rw[decide_eq_false d1];refine H ?_;exact⟨k+1,⟨hlt,hall⟩,J,O,O,O,O,congrArg I q1,O,O,trivial⟩
  rw[decide_eq_true d1];refine H ?_;rw[q1];refine bE O O (jz (n:=((((k+1:Nat):Int)):Int)) O O O O O J hhii O) ?_;refine G a2 ?_;refine ar c2 ?_;refine H ?_;by_cases d2:g2<0
  .rw[if_pos ⟨s1.1 d1,s2.1 d2⟩]at hall;rw[decide_eq_true d2];subst hall;exact cp
  .rw[if_neg (fun e=>d2 (s2.2 e.2))]at hall;rw[decide_eq_false d2];refine H ?_;exact⟨k+1,⟨hlt,hall⟩,J,O,O,O,O,congrArg I q1,O,O,trivial⟩
 .have hge:k=t.H0.length:=by have:=aG h;omega
  clear h;subst hge;rw[Nat.sub_self,Ht]at hall;subst hall;exact cp
def AQ (M:Nat)(y q:Rat):Prop:=∃a b:Int,a.natAbs<=M/\b.natAbs<=M/\q=(a:Rat)+(b:Rat)*y
def PQ (M:Nat)(y q:Rat):Prop:=∃a b c:Int,a.natAbs<=M/\b.natAbs<=M/\c.natAbs<=M/\q=(a:Rat)+(b:Rat)*y+(c:Rat)*(y*y)
def AZ (M:Nat)(z u q:Rat):Prop:=∃a b c:Int,a.natAbs<=M/\b.natAbs<=M/\c.natAbs<=M/\q=(a:Rat)+(b:Rat)*z+(c:Rat)*u
def PZ (M:Nat)(z u q:Rat):Prop:=∃a b c d e f:Int,a.natAbs<=M/\b.natAbs<=M/\c.natAbs<=M/\d.natAbs<=M/\e.natAbs<=M/\f.natAbs<=M/\q=(a:Rat)+(b:Rat)*z+(c:Rat)*u+(d:Rat)*(z*z)+(e:Rat)*(z*u)+(f:Rat)*(u*u)
theorem pt {a b:Int}{M K:Nat}(ha:a.natAbs<=M)(hb:b.natAbs<=K):(a*b).natAbs<=M*K:=by
 rw[Int.natAbs_mul];exact Nat.mul_le_mul ha hb
theorem lX {a b:Int}{M K:Nat}(ha:a.natAbs<=M)(hb:b.natAbs<=K):(a+b).natAbs<=M+K:=Nat.le_trans (Int.natAbs_add_le a b) (Nat.add_le_add ha hb)
theorem AQ.add {M K:Nat}{y p q:Rat}(h1:AQ M y p)(h2:AQ K y q):AQ (M+K) y (p+q):=by
 obtain⟨a,b,ha,hb,rfl⟩:=h1;obtain⟨c,d,hc,hd,rfl⟩:=h2;refine⟨a+c,b+d,lX ha hc,lX hb hd,?_⟩;rw[Rat.intCast_add,Rat.intCast_add];grind
theorem PQ.add {M K:Nat}{y p q:Rat}(h1:PQ M y p)(h2:PQ K y q):PQ (M+K) y (p+q):=by
 obtain⟨a,b,c,ha,hb,hc,rfl⟩:=h1;obtain⟨d,e,f,hd,he,hf,rfl⟩:=h2;refine⟨a+d,b+e,c+f,lX ha hd,lX hb he,lX hc hf,?_⟩;rw[Rat.intCast_add,Rat.intCast_add,Rat.intCast_add];grind
theorem AZ.add {M K:Nat}{z u p q:Rat}(h1:AZ M z u p)(h2:AZ K z u q):AZ (M+K) z u (p+q):=by
 obtain⟨a,b,c,ha,hb,hc,rfl⟩:=h1;obtain⟨d,e,f,hd,he,hf,rfl⟩:=h2;refine⟨a+d,b+e,c+f,lX ha hd,lX hb he,lX hc hf,?_⟩;rw[Rat.intCast_add,Rat.intCast_add,Rat.intCast_add];grind
theorem PZ.add {M K:Nat}{z u p q:Rat}(h1:PZ M z u p)(h2:PZ K z u q):PZ (M+K) z u (p+q):=by
 obtain⟨a,b,c,d,e,f,ha,hb,hc,hd,he,hf,rfl⟩:=h1;obtain⟨a',b',c',d',e',f',ha',hb',hc',hd',he',hf',rfl⟩:=h2;refine⟨a+a',b+b',c+c',d+d',e+e',f+f',lX ha ha',lX hb hb',lX hc hc',lX hd hd',lX he he',lX hf hf',?_⟩;rw[Rat.intCast_add,Rat.intCast_add,Rat.intCast_add,Rat.intCast_add,Rat.intCast_add,Rat.intCast_add];grind
theorem yD {t:ST}(ok:StOk t)(k:Nat):0<=t.L.getD k 0/\t.L.getD k 0<=100000:=by
 rcases Nat.lt_or_ge k t.L.length with h|h
 .exact ok.L _ (bc (bi (d:=0) h))
 .rw[List.getD_eq_getElem?_getD,List.getElem?_eq_none h];decide
theorem E8 {t:ST}(ok:StOk t)(y:Rat)(k:Nat):AQ 20000000000 y (qs t k*fb t y k):=by
 have hf:=un ok k;have l0:=yD ok k;have l1:=yD ok (k+1);rw[fb,qs,dL,dL];generalize t.H0.getD k 0=h at *
 generalize t.L.getD k 0=a at *
 generalize t.L.getD (k+1) 0=b at *
 have z2:((2:Int):Rat)=2:=O;have z0:((0:Int):Rat)=0:=O;split
 .exact⟨0,0,Y,Y,by rw[z0];grind⟩
 split
 .refine⟨-(2*h*a),2*h,?_,J,?_⟩
  .rw[Int.natAbs_neg];exact pt (M:=200000) (K:=100000) J J
  .rw[Rat.intCast_neg,Rat.intCast_mul,Rat.intCast_mul,z2];grind
 .refine⟨2*h*(b-a),0,pt (M:=200000) (K:=100000) J J,Y,?_⟩;rw[Rat.intCast_mul,Rat.intCast_mul,Rat.intCast_sub,z2,z0];grind
theorem FS {t:ST}(ok:StOk t)(y:Rat)(k:Nat):PQ 2000000000000000 y (FR t y k):=by
 have hf:=un ok k;have l0:=yD ok k;have l1:=yD ok (k+1);rw[FR,fb,qs,dL,dL];generalize t.H0.getD k 0=h at *
 generalize t.L.getD k 0=a at *
 generalize t.L.getD (k+1) 0=b at *
 have z2:((2:Int):Rat)=2:=O;have z0:((0:Int):Rat)=0:=O;split
 .exact⟨0,0,0,Y,Y,Y,by rw[z0];grind⟩
 split
 .refine⟨-(h*(a*a)),0,h,?_,Y,J,?_⟩
  .rw[Int.natAbs_neg];exact Nat.le_trans (pt (M:=100000) (K:=10000000000) J (pt (M:=100000) (K:=100000) J J)) Y
  .rw[Rat.intCast_neg,Rat.intCast_mul,Rat.intCast_mul,Rat.intCast_mul,z2,z0];grind
 .refine⟨h*((b-a)*(b+a)),0,0,?_,Y,Y,?_⟩
  .exact pt (M:=100000) (K:=20000000000) J (pt (M:=100000) (K:=200000) J J)
  .rw[Rat.intCast_mul,Rat.intCast_mul,Rat.intCast_mul,Rat.intCast_sub,Rat.intCast_add,z2,z0];grind
theorem B0 {t:ST}(ok:StOk t)(y:Rat):∀k,AQ (k*20000000000) y (qg t y k)
 |0=>⟨0,0,Y,Y,by show(0:Rat)=((0:Int):Rat)+((0:Int):Rat)*y;rw[show((0:Int):Rat)=0 from rfl];grind⟩
 |k+1=>by rw[qg,Nat.add_mul,Nat.one_mul];exact(B0 ok y k).add (E8 ok y k)
theorem Df {t:ST}(ok:StOk t)(y:Rat):∀k,PQ (k*2000000000000000) y (sI t y k)
 |0=>⟨0,0,0,Y,Y,Y,by show(0:Rat)=((0:Int):Rat)+((0:Int):Rat)*y+((0:Int):Rat)*(y*y);rw[show((0:Int):Rat)=0 from rfl];grind⟩
 |k+1=>by rw[sI,Nat.add_mul,Nat.one_mul];exact(Df ok y k).add (FS ok y k)
theorem AQ.mono {M K:Nat}{y q:Rat}(h:AQ M y q)(hm:M<=K):AQ K y q:=by
 obtain⟨a,b,ha,hb,e⟩:=h;exact⟨a,b,J,J,e⟩
theorem PQ.mono {M K:Nat}{y q:Rat}(h:PQ M y q)(hm:M<=K):PQ K y q:=by
 obtain⟨a,b,c,ha,hb,hc,e⟩:=h;exact⟨a,b,c,J,J,J,e⟩
def bJ (z s:Rat)(t:ST):Rat:=wQ t*tB t (bY z s t)
def pW (z s:Rat)(t:ST):Rat:=wQ t*tB t (bY z s t)*xQ t
def kn (z s:Rat)(t:ST):Rat:=wQ t*FQ t (bY z s t)
def ir (z s:Rat)(t:ST):Rat:=cd z s t*xQ t
def dR (z s:Rat)(t:ST):Rat:=2*(jT t (bY z s t):Rat)*(jT t (bY z s t):Rat)*(jT t (bY z s t):Rat)*wQ t/3
def ka (z s:Rat)(t:ST):Rat:=cd z s t*xQ t*xQ t
theorem zu {t:ST}(ok:StOk t)(h8:t.L.length<=8)(z u:Rat):AZ 14000000000000000000000 z u (bJ z u t):=by
 have hw:=ok.w;have hx:=ok.x;have hH:=ok.h;obtain⟨a,b,ha,hb,e⟩:=(B0 ok (bY z u t) t.H0.length).mono (K:=140000000000) J;refine⟨t.w*a,t.w*b,t.w*(b*t.x),?_,?_,?_,?_⟩
 .exact Nat.le_trans (pt (M:=100000) J ha) Y
 .exact Nat.le_trans (pt (M:=100000) J hb) Y
 .exact Nat.le_trans (pt (M:=100000) J (pt (K:=1000000) hb J)) Y
 .rw[bJ,tB,e,bY,wQ,Rat.intCast_mul,Rat.intCast_mul,Rat.intCast_mul,Rat.intCast_mul];grind
theorem I0 {t:ST}(ok:StOk t)(h8:t.L.length<=8)(z u:Rat):AZ 14000000000000000000000000000 z u (pW z u t):=by
 have hx:=ok.x;obtain⟨a,b,c,ha,hb,hc,e⟩:=zu ok h8 z u;refine⟨a*t.x,b*t.x,c*t.x,?_,?_,?_,?_⟩
 .exact pt (K:=1000000) ha J
 .exact pt (K:=1000000) hb J
 .exact pt (K:=1000000) hc J
 .rw[show pW z u t=bJ z u t*xQ t from O,e,xQ,Rat.intCast_mul,Rat.intCast_mul,Rat.intCast_mul];grind
theorem I1 {t:ST}(ok:StOk t)(h8:t.L.length<=8)(z u:Rat):PZ 2800000000000000000000000000000000 z u (kn z u t):=by
 have hw:=ok.w;have hx:=ok.x;have hH:=ok.h;obtain⟨a,b,c,ha,hb,hc,e⟩:=(Df ok (bY z u t) t.H0.length).mono (K:=14000000000000000) J;refine⟨t.w*a,t.w*b,t.w*(b*t.x),t.w*c,t.w*(c*(2*t.x)),t.w*(c*(t.x*t.x)),?_,?_,?_,?_,?_,?_,?_⟩
 .exact Nat.le_trans (pt (M:=100000) J ha) Y
 .exact Nat.le_trans (pt (M:=100000) J hb) Y
 .exact Nat.le_trans (pt (M:=100000) J (pt (K:=1000000) hb J)) Y
 .exact Nat.le_trans (pt (M:=100000) J hc) Y
 .exact Nat.le_trans (pt (M:=100000) J (pt (K:=2000000) hc J)) Y
 .exact Nat.le_trans (pt (M:=100000) J (pt (K:=1000000000000) hc (pt (M:=1000000) (K:=1000000) J J))) Y
 .rw[kn,FQ,e,bY,wQ];simp only[Rat.intCast_mul];rw[show((2:Int):Rat)=2 from O];grind
theorem nj {P:Nat->Rat->Prop}{f:ST->Rat}{M:Nat}(h0:P 0 0)(ha:∀n p q,P n p->P M q->P (n+M) (p+q)){l:List ST}(h:∀t∈l,P M (f t))(i:Nat):P ((l.take i).length*M) (aB f (l.take i)):=by
 have key:∀(l:List ST) (a:Rat) (m:Nat),P m a->(∀t∈l,P M (f t))->P (m+l.length*M) (l.foldl (fun a t=>a+f t) a):=by
  intro l
  induction l with
  |nil=>intro a m ha _;simpa using ha
  |cons x l ih =>
   intro a m h1 hl;rw[List.foldl_cons,List.length_cons];have:=ih (a+f x) (m+M) (ha _ _ _ h1 (hl x List.mem_cons_self)) fun q hq=>hl q (List.mem_cons_of_mem _ hq);rwa [show m+M+l.length*M=m+(l.length+1)*M by rw[Nat.add_mul];omega]at this
 have:=key (l.take i) 0 0 h0 fun t ht=>h t (List.mem_of_mem_take ht);rwa [Nat.zero_add]at this
theorem AZ.zero (z u:Rat):AZ 0 z u 0:=⟨0,0,0,Y,Y,Y,by rw[show((0:Int):Rat)=0 from O];grind⟩
theorem PZ.zero (z u:Rat):PZ 0 z u 0:=⟨0,0,0,0,0,0,Y,Y,Y,Y,Y,Y,by rw[show((0:Int):Rat)=0 from O];grind⟩
theorem FG {a:Int}{M:Nat}(h:a.natAbs<=M)(hM:M<65536^8):HQ (a:Rat) 8:=⟨iG (Nat.lt_of_le_of_lt h hM) Y⟩
theorem AZ.hq {M:Nat}{z u q:Rat}{n m:Nat}(h:AZ M z u q)(hM:M<65536^8)(hz:hq z n)(hu:hq u m):HQ q (n+m+26):=by
 obtain⟨a,b,c,ha,hb,hc,rfl⟩:=h;exact(@HQ.add _ _ _ _ (@HQ.add _ _ 8 (8+n) (FG ha hM) (@HQ.mul _ _ 8 n (FG hb hM) ⟨hz⟩)) (@HQ.mul _ _ 8 m (FG hc hM) ⟨hu⟩)).mono J
theorem PZ.hq {M:Nat}{z u q:Rat}{n m:Nat}(h:PZ M z u q)(hM:M<65536^8)(hz:hq z n)(hu:hq u m):HQ q (4*(n+m)+53):=by
 obtain⟨a,b,c,d,e,f,ha,hb,hc,hd,he,hf,rfl⟩:=h;exact(@HQ.add _ _ _ _ (@HQ.add _ _ _ _ (@HQ.add _ _ _ _ (@HQ.add _ _ _ _ (@HQ.add _ _ 8 (8+n) (FG ha hM) (@HQ.mul _ _ 8 n (FG hb hM) ⟨hz⟩)) (@HQ.mul _ _ 8 m (FG hc hM) ⟨hu⟩)) (@HQ.mul _ _ 8 _ (FG hd hM) (@HQ.mul _ _ n n ⟨hz⟩ ⟨hz⟩))) (@HQ.mul _ _ 8 _ (FG he hM) (@HQ.mul _ _ n m ⟨hz⟩ ⟨hu⟩))) (@HQ.mul _ _ 8 _ (FG hf hM) (@HQ.mul _ _ m m ⟨hu⟩ ⟨hu⟩))).mono J
theorem zg {l:List ST}(hs:∀t∈l,StOk t)(h8:∀t∈l,t.L.length<=8)(h6:l.length<=6){z u:Rat}{n m:Nat}(hz:hq z n)(hu:hq u m)(i:Nat):HQ (aB (bJ z u) (l.take i)) (n+m+26)/\HQ (aB (pW z u) (l.take i)) (n+m+26)/\HQ (aB (kn z u) (l.take i)) (4*(n+m)+53):=by
 have hl:(l.take i).length<=6:=by rw[List.length_take];omega
 refine⟨?_,?_,?_⟩
 .refine(nj (P:=fun M q=>AZ M z u q) (AZ.zero z u) (fun n p q h1 h2=>h1.add h2) (fun t ht=>zu (hs t ht) (h8 t ht) z u) i).hq ?_ hz hu;exact Nat.lt_of_le_of_lt (Nat.mul_le_mul_right _ hl) Y
 .refine(nj (P:=fun M q=>AZ M z u q) (AZ.zero z u) (fun n p q h1 h2=>h1.add h2) (fun t ht=>I0 (hs t ht) (h8 t ht) z u) i).hq ?_ hz hu;exact Nat.lt_of_le_of_lt (Nat.mul_le_mul_right _ hl) Y
 .refine(nj (P:=fun M q=>PZ M z u q) (PZ.zero z u) (fun n p q h1 h2=>h1.add h2) (fun t ht=>I1 (hs t ht) (h8 t ht) z u) i).hq ?_ hz hu;exact Nat.lt_of_le_of_lt (Nat.mul_le_mul_right _ hl) Y
theorem GG {M:Nat}{f:ST->Rat}{l:List ST}(h:∀t∈l,hq (f t) M):hq (aB f l) ((M+1)*l.length+4):=by
 have key:∀(l:List ST) (a:Rat) (m:Nat),hq a m->(∀t∈l,hq (f t) M)->hq (l.foldl (fun a t=>a+f t) a) (m+(M+1)*l.length):=by
  intro l
  induction l with
  |nil=>intro a m ha _;simpa using ha
  |cons x l ih =>
   intro a m ha hl;rw[List.foldl_cons,List.length_cons];have:=ih (a+f x) (m+M+1) (@HQ.add a (f x) m M ⟨ha⟩ ⟨hl x List.mem_cons_self⟩).ok fun q hq=>hl q (List.mem_cons_of_mem _ hq);rwa [show m+M+1+(M+1)*l.length=m+(M+1)*(l.length+1) by rw[Nat.mul_add];omega]at this
 have:=key l 0 4 HQ.zero.ok h;rwa [Nat.add_comm]at this
theorem jH {M:Nat}{f:ST->Rat}{l:List ST}(h:∀t∈l,hq (f t) M)(h6:l.length<=6)(i:Nat):HQ (aB f (l.take i)) (6*M+10):=by
 have:=GG (M:=M) (l:=l.take i) fun t ht=>h t (List.mem_of_mem_take ht);refine HQ.mono (h:=⟨this⟩) ?_;have h1:(l.take i).length<=6:=by rw[List.length_take];omega
 have:=Nat.mul_le_mul_left (M+1) h1;omega
def DX (v x z a f c l:RR):List PV:=eR v++zN++eR x++eR z++eR a++eR f++eR c++eR l++zN
def Hq (x:HYQ):List PV:=eR (ofQ x.vol)++eR (ofQ x.disp)++eR (ofQ x.x)++eR (ofQ x.z)++eR (ofQ x.area)++eR (ofQ x.flo)++eR (ofQ x.cross)++eR (ofQ x.long)++eR (ofQ x.mtc)
theorem Al (st:List ST)(d:Nat)(z u:Rat):(aB (cd z u) st=0/\Hq (nO st d z u)=eR (ofQ (aB (bJ z u) st))++eR (ofQ (aB (bJ z u) st*((d:Rat)/1000000000)))++eR (ofQ (aB (pW z u) st/aB (bJ z u) st))++eR (ofQ (aB (kn z u) st/aB (bJ z u) st))++eR (ofQ (aB (cd z u) st))++eR (ofQ 0)++eR (ofQ (aB (dR z u) st))++eR (ofQ 0)++eR (ofQ (aB (kn z u) st/aB (bJ z u) st+aB (dR z u) st/aB (bJ z u) st))) \/
  (aB (cd z u) st≠0/\∃f l:Rat,f=aB (ir z u) st/aB (cd z u) st/\l=aB (ka z u) st-aB (cd z u) st*f*f/\Hq (nO st d z u)=eR (ofQ (aB (bJ z u) st))++eR (ofQ (aB (bJ z u) st*((d:Rat)/1000000000)))++eR (ofQ (aB (pW z u) st/aB (bJ z u) st))++eR (ofQ (aB (kn z u) st/aB (bJ z u) st))++eR (ofQ (aB (cd z u) st))++eR (ofQ f)++eR (ofQ (aB (dR z u) st))++eR (ofQ l)++eR (ofQ (aB (kn z u) st/aB (bJ z u) st+aB (dR z u) st/aB (bJ z u) st))):=by
 by_cases hA:aB (cd z u) st=0
 .refine Or.inl ⟨hA,?_⟩;have:nO st d z u=⟨aB (bJ z u) st,aB (bJ z u) st*((d:Rat)/1000000000),aB (pW z u) st/aB (bJ z u) st,aB (kn z u) st/aB (bJ z u) st,aB (cd z u) st,if aB (cd z u) st=0 then 0 else aB (ir z u) st/aB (cd z u) st,aB (dR z u) st,if aB (cd z u) st=0 then 0 else aB (ka z u) st-aB (cd z u) st*(if aB (cd z u) st=0 then 0 else aB (ir z u) st/aB (cd z u) st)*(if aB (cd z u) st=0 then 0 else aB (ir z u) st/aB (cd z u) st),aB (kn z u) st/aB (bJ z u) st+aB (dR z u) st/aB (bJ z u) st⟩:=O;rw[this,if_pos hA,if_pos hA];rfl
 .refine Or.inr ⟨hA,_,_,O,O,?_⟩;have:nO st d z u=⟨aB (bJ z u) st,aB (bJ z u) st*((d:Rat)/1000000000),aB (pW z u) st/aB (bJ z u) st,aB (kn z u) st/aB (bJ z u) st,aB (cd z u) st,if aB (cd z u) st=0 then 0 else aB (ir z u) st/aB (cd z u) st,aB (dR z u) st,if aB (cd z u) st=0 then 0 else aB (ka z u) st-aB (cd z u) st*(if aB (cd z u) st=0 then 0 else aB (ir z u) st/aB (cd z u) st)*(if aB (cd z u) st=0 then 0 else aB (ir z u) st/aB (cd z u) st),aB (kn z u) st/aB (bJ z u) st+aB (dR z u) st/aB (bJ z u) st⟩:=O;rw[this,if_neg hA,if_neg hA];rfl
theorem AF (p:Rat)(n:Nat)(hp:hq p n)(hn:n<=2999000)(d:Nat)(h1:1<=d)(h2:d<=1000000000):Ret Tryz.prog .shared 172 [.agg (eR (ofQ p)),I (d:Nat)] (.agg (eR (ofQ (p*((d:Rat)/1000000000))))):=by
 have z1:Zb (d:Int):=aK J J;have z2:Zb 1000000000:=aK Y Y;have w1:=bZ (d:Int) ⟨J,J⟩;have w2:=bZ 1000000000 ⟨Y,Y⟩;have c1:=jI p ((d:Int):Rat) (n+4) (HQ.mono (h:=⟨hp⟩) J).ok ((HQ.int (z:=(d:Int))).mono J).ok J;have c2:=i8 (ofQ (p*((d:Int):Rat))) (ofQ ((1000000000:Int):Rat)) (hx:=Vq.ofQ (h:=@HQ.mul _ _ n 4 ⟨hp⟩ HQ.int)) (hy:=Vq.ofQ (h:=HQ.int)) J Y aT;rw[show p*((d:Int):Rat)/((1000000000:Int):Rat)=p*((d:Rat)/1000000000) by rw[show((d:Int):Rat)=(d:Rat) from O,show((1000000000:Int):Rat)=1000000000 from O];grind]at c2;generalize ofQ (p*((d:Rat)/1000000000))=X3 at *
 generalize ofQ (p*((d:Int):Rat))=X2 at *
 generalize ofQ ((d:Int):Rat)=X1 at *
 generalize ofQ ((1000000000:Int):Rat)=X0 at *
 generalize ofQ p=X at *
 refine Ret.of_pwp layOk mixed Go.Proofs.Tryz.func172 O Y O O ?_;refine cn 3 [5,6,7] ?_;refine G w1 ?_;refine H ?_;refine bE O O (cC O O O O O O O O O O aI O) ?_;refine G c1 ?_;refine G w2 ?_;refine G c2 ?_;exact bV
theorem IY {t:ST}(ok:StOk t)(h8:t.L.length<=8){z s:Rat}{N:Nat}(hy:hq (bY z s t) N):HQ (wQ t) 4/\HQ (xQ t) 4/\HQ (jT t (bY z s t):Rat) 4/\HQ (tB t (bY z s t)) (7*N+102)/\HQ (FQ t (bY z s t)) (14*N+291)/\HQ (cd z s t) 12:=by
 have hw:=ok.w;have hx:=ok.x;have ha:=CQ ok (bY z s t);have zw:Zb t.w:=aK J J;have zx:Zb t.x:=aK J J;have za:Zb (jT t (bY z s t)):=aK J J;have z2:Zb 2:=aK Y Y;have hH:=ok.h;have hk:t.H0.length<=7:=J;have k1:=Nat.mul_le_mul_right (N+14) hk;have k2:=Nat.mul_le_mul_right (2*N+41) hk;refine⟨HQ.int,HQ.int,HQ.int,(B4 ok hy t.H0.length).mono J,(Dg ok hy t.H0.length).mono J,?_⟩;rw[cd,show(2:Rat)=((2:Int):Rat) from O];exact(@HQ.mul _ _ _ 4 (@HQ.mul _ _ 4 4 HQ.int HQ.int) HQ.int)
theorem Ih {t:ST}{z u:Rat}(c3:HQ (jT t (bY z u t):Rat) 4)(c1:HQ (wQ t) 4):hq (dR z u t) 24:=by
 have z2:Zb 2:=aK Y Y;have z3:Zb 3:=aK Y Y;have q2:HQ (2:Rat) 4:=by rw[show(2:Rat)=((2:Int):Rat) from O];exact HQ.int
 have q3:HQ (3:Rat) 4:=by rw[show(3:Rat)=((3:Int):Rat) from O];exact HQ.int
 exact(@HQ.div _ _ 20 4 (@HQ.mul _ _ 16 4 (@HQ.mul _ _ 12 4 (@HQ.mul _ _ 8 4 (@HQ.mul _ _ 4 4 q2 c3) c3) c3) c1) q3).ok
set_option maxRecDepth 20000 in
set_option maxHeartbeats 16000000 in
theorem Am (s:SHP)(hst:∀t∈s.st,StOk t)(h6:s.st.length<=6)(h8:∀t∈s.st,t.L.length<=8)(a:AR){z u:Rat}{n m:Nat}[ha:Va a z u n m](hnm:n+m<=49000)(d:Nat)(hd1:1<=d)(hd2:d<=1000000000)(hv0:aB (bJ z u) s.st≠0) :
  Ret Tryz.prog .shared 193 [.agg (fF s),.agg (eA a),I (d:Nat)] (.tup [.agg (Hq (nO s.st d z u)),.bool true]):=by
 have w0:=bZ 0 ⟨Y,Y⟩;rw[show((0:Int):Rat)=0 from O]at w0;have w2:=bZ 2 ⟨Y,Y⟩;rw[show((2:Int):Rat)=2 from O]at w2;have w3:=bZ 3 ⟨Y,Y⟩;rw[show((3:Int):Rat)=3 from O]at w3;have z2:Zb 2:=aK Y Y;have z3:Zb 3:=aK Y Y;have q2:HQ (2:Rat) 4:=by rw[show(2:Rat)=((2:Int):Rat) from O];exact HQ.int
 have q3:HQ (3:Rat) 4:=by rw[show(3:Rat)=((3:Int):Rat) from O];exact HQ.int
 have hms:(s.st.map eT).length=s.st.length:=ah;have hyq:∀t∈s.st,hq (bY z u t) (n+m+12):=fun t ht=>by
  have hx:=(hst t ht).x;have zx:Zb t.x:=aK J J;exact(HQ.mono (h:=@HQ.add _ _ (n+1) (m+1+4) ha.z.hq (@HQ.mul _ _ (m+1) 4 ha.t.hq HQ.int)) J).ok
 have hsum:=fun i=>zg hst h8 h6 ha.z.hq.ok ha.t.hq.ok i;generalize hNN:n+m+12=N at *
 have hN:N<=49012:=J;have hsz:=fun t ht=>IY (hst t ht) (h8 t ht) (hyq t ht);have b4:∀t∈s.st,hq (cd z u t) 12:=fun t ht=>(hsz t ht).2.2.2.2.2.ok;have b5:∀t∈s.st,hq (ir z u t) 16:=fun t ht=>by
  obtain⟨c1,c2,c3,c4,c5,c6⟩:=hsz t ht;exact(@HQ.mul _ _ 12 4 c6 c2).ok
 have b6:∀t∈s.st,hq (dR z u t) 24:=fun t ht=>by
  obtain⟨c1,c2,c3,c4,c5,c6⟩:=hsz t ht;exact(@HQ.div _ _ 20 4 (@HQ.mul _ _ 16 4 (@HQ.mul _ _ 12 4 (@HQ.mul _ _ 8 4 (@HQ.mul _ _ 4 4 q2 c3) c3) c3) c1) q3).ok
 have b7:∀t∈s.st,hq (ka z u t) 20:=fun t ht=>by
  obtain⟨c1,c2,c3,c4,c5,c6⟩:=hsz t ht;exact(@HQ.mul _ _ 16 4 (@HQ.mul _ _ 12 4 c6 c2) c2).ok
 have s1:∀i,HQ (aB (bJ z u) (s.st.take i)) (N+16):=fun i=>(hsum i).1.mono J;have s2:∀i,HQ (aB (pW z u) (s.st.take i)) (N+16):=fun i=>(hsum i).2.1.mono J;have s3:∀i,HQ (aB (kn z u) (s.st.take i)) (4*N+13):=fun i=>(hsum i).2.2.mono J;have s4:=fun i=>jH b4 h6 i;have s5:=fun i=>jH b5 h6 i;have s6:=fun i=>jH b6 h6 i;have s7:=fun i=>jH b7 h6 i;clear b4 b5 b6 b7 hsum;obtain⟨nm,len,st,light,it⟩:=s;obtain⟨az,au⟩:=a;simp only at *
 refine Ret.of_pwp layOk mixed Go.Proofs.Tryz.func193 O Y O O ?_;refine G w0 ?_;refine H ?_;rw[hms];refine bH [(2,I (d:Nat)),(3,.ptr 3 1 0 0),(4,.ptr 4 1 0 0),(6,.ptr 6 1 0 0),(9,.ptr 9 1 0 0),(28,.sl (st.map eT)),(29,I st.length),(30,I ((0:Nat):Int))] [(3,1,⟨27,9,[fF ⟨nm,len,st,light,it⟩],2⟩),(4,1,⟨45,8,[eA ⟨az,au⟩],2⟩),(6,1,⟨217,36,[zN++zN++zN++zN++zN++zN++zN++zN++zN],2⟩),(9,1,⟨217,36,[DX (ofQ 0) (ofQ 0) (ofQ 0) (ofQ 0) (ofQ 0) (ofQ 0) (ofQ 0)],2⟩)] ⟨O,O,O,O,O,O,O,O,O,O,O,O,trivial⟩ ?_;intro s0;refine ap (fun i:Nat=>i<=st.length) (fun i=>[(2,I (d:Nat)),(3,.ptr 3 1 0 0),(4,.ptr 4 1 0 0),(6,.ptr 6 1 0 0),(9,.ptr 9 1 0 0),(28,.sl (st.map eT)),(29,I st.length),(30,I (i:Nat))]) (fun i=>[(3,1,⟨27,9,[fF ⟨nm,len,st,light,it⟩],2⟩),(4,1,⟨45,8,[eA ⟨az,au⟩],2⟩),(6,1,⟨217,36,[zN++zN++zN++zN++zN++zN++zN++zN++zN],2⟩),(9,1,⟨217,36,[DX (ofQ (aB (bJ z u) (st.take i))) (ofQ (aB (pW z u) (st.take i))) (ofQ (aB (kn z u) (st.take i))) (ofQ (aB (cd z u) (st.take i))) (ofQ (aB (ir z u) (st.take i))) (ofQ (aB (dR z u) (st.take i))) (ofQ (aB (ka z u) (st.take i)))],2⟩)]) (fun i=>st.length-i) 0 (Nat.zero_le _) ⟨O,O,O,O,O,O,O,O,O,O,O,O,trivial⟩ ?_;intro i s1' hi;refine D ?_ ?_<;>intro h
 .have hlt:i<st.length:=by have:=aC h;omega
  clear h;obtain⟨t,hx⟩:=aJ hlt;have htm:=bc hx;have ok:=hst t htm;have hyt:=hyq t htm;obtain⟨c1,c2,c3,c4,c5,c6⟩:=hsz t htm;have i64x:i64 t.x:=by have:=ok.x;exact⟨J,J⟩
  have i64w:i64 t.w:=by have:=ok.w;exact⟨J,J⟩
  have i64h:i64 (jT t (bY z u t)):=by have:=CQ ok (bY z u t);exact⟨J,J⟩
  have e1:=ur ⟨az,au⟩ t.x i64x (ha:=ha) J J;rw[show z+u*(t.x:Rat)=bY z u t from O]at e1;have e2:=bZ t.w i64w;rw[show((t.w:Int):Rat)=wQ t from O]at e2;have e3:=bZ t.x i64x;rw[show((t.x:Int):Rat)=xQ t from O]at e3;have e4:=sw t ok (h8 t htm) hyt J;have e5:=tO t ok hyt J;have e6:=bZ (jT t (bY z u t)) i64h;have m1:=jI (wQ t) (tB t (bY z u t)) (7*N+102) (c1.mono J).ok c4.ok J;have m2:=tu (wQ t) (tB t (bY z u t)) (xQ t) (7*N+102) (c1.mono J).ok c4.ok (c2.mono J).ok J;have m3:=jI (wQ t) (FQ t (bY z u t)) (14*N+291) (c1.mono J).ok c5.ok J;have m4:=tu 2 (jT t (bY z u t):Rat) (wQ t) 4 q2.ok c3.ok c1.ok Y;have m5:=jI (cd z u t) (xQ t) 12 c6.ok (c2.mono Y).ok Y;have m6:=I2 2 (jT t (bY z u t):Rat) (jT t (bY z u t):Rat) (jT t (bY z u t):Rat) (wQ t) 4 q2.ok c3.ok c3.ok c3.ok c1.ok Y;have m7:=i8 (ofQ (2*(jT t (bY z u t):Rat)*(jT t (bY z u t):Rat)*(jT t (bY z u t):Rat)*wQ t)) (ofQ 3) (hx:=Vq.ofQ (h:=@HQ.mul _ _ 16 4 (@HQ.mul _ _ 12 4 (@HQ.mul _ _ 8 4 (@HQ.mul _ _ 4 4 q2 c3) c3) c3) c1)) (hy:=Vq.ofQ (h:=q3)) Y Y Y;have m8:=tu (cd z u t) (xQ t) (xQ t) 12 c6.ok (c2.mono Y).ok (c2.mono Y).ok Y;have d1:=cJ (ofQ (aB (bJ z u) (st.take i))) (ofQ (bJ z u t)) (hx:=Vq.ofQ (h:=s1 i)) (hy:=Vq.ofQ (h:=@HQ.mul _ _ 4 _ c1 c4)) J J;have d2:=cJ (ofQ (aB (pW z u) (st.take i))) (ofQ (pW z u t)) (hx:=Vq.ofQ (h:=s2 i)) (hy:=Vq.ofQ (h:=@HQ.mul _ _ _ 4 (@HQ.mul _ _ 4 _ c1 c4) c2)) J J;have d3:=cJ (ofQ (aB (kn z u) (st.take i))) (ofQ (kn z u t)) (hx:=Vq.ofQ (h:=s3 i)) (hy:=Vq.ofQ (h:=@HQ.mul _ _ 4 _ c1 c5)) J J;have d4:=cJ (ofQ (aB (cd z u) (st.take i))) (ofQ (cd z u t)) (hx:=Vq.ofQ (h:=s4 i)) (hy:=Vq.ofQ (h:=c6)) J J;have d5:=cJ (ofQ (aB (ir z u) (st.take i))) (ofQ (ir z u t)) (hx:=Vq.ofQ (h:=s5 i)) (hy:=Vq.ofQ (h:=@HQ.mul _ _ 12 4 c6 c2)) J J;have d6:=cJ (ofQ (aB (dR z u) (st.take i))) (ofQ (dR z u t)) (hx:=Vq.ofQ (h:=s6 i)) (hy:=Vq.ofQ (h:=@HQ.div _ _ 20 4 (@HQ.mul _ _ 16 4 (@HQ.mul _ _ 12 4 (@HQ.mul _ _ 8 4 (@HQ.mul _ _ 4 4 q2 c3) c3) c3) c1) q3)) J J;have d7:=cJ (ofQ (aB (ka z u) (st.take i))) (ofQ (ka z u t)) (hx:=Vq.ofQ (h:=s7 i)) (hy:=Vq.ofQ (h:=@HQ.mul _ _ 16 4 (@HQ.mul _ _ 12 4 c6 c2) c2)) J J;rw[<-fm (bJ z u) hx]at d1;rw[<-fm (pW z u) hx]at d2;rw[<-fm (kn z u) hx]at d3;rw[<-fm (cd z u) hx]at d4;rw[<-fm (ir z u) hx]at d5;rw[<-fm (dR z u) hx]at d6;rw[<-fm (ka z u) hx]at d7;rw[show wQ t*tB t (bY z u t)=bJ z u t from O]at m1;rw[show wQ t*tB t (bY z u t)*xQ t=pW z u t from O]at m2;rw[show wQ t*FQ t (bY z u t)=kn z u t from O]at m3;rw[show 2*(jT t (bY z u t):Rat)*wQ t=cd z u t from O]at m4;rw[show cd z u t*xQ t=ir z u t from O]at m5;rw[show 2*(jT t (bY z u t):Rat)*(jT t (bY z u t):Rat)*(jT t (bY z u t):Rat)*wQ t/3=dR z u t from O]at m7;rw[show cd z u t*xQ t*xQ t=ka z u t from O]at m8;clear s1 s2 s3 s4 s5 s6 s7 hsz c1 c2 c3 c4 c5 c6;have hw:=fc i;generalize hN0:ofQ (aB (bJ z u) (st.take (i+1)))=N0 at *
  generalize ofQ (aB (bJ z u) (st.take i))=O0 at *
  generalize ofQ (bJ z u t)=F0 at *
  generalize hN1:ofQ (aB (pW z u) (st.take (i+1)))=N1 at *
  generalize ofQ (aB (pW z u) (st.take i))=O1 at *
  generalize ofQ (pW z u t)=F1 at *
  generalize hN2:ofQ (aB (kn z u) (st.take (i+1)))=N2 at *
  generalize ofQ (aB (kn z u) (st.take i))=O2 at *
  generalize ofQ (kn z u t)=F2 at *
  generalize hN3:ofQ (aB (cd z u) (st.take (i+1)))=N3 at *
  generalize ofQ (aB (cd z u) (st.take i))=O3 at *
  generalize ofQ (cd z u t)=F3 at *
  generalize hN4:ofQ (aB (ir z u) (st.take (i+1)))=N4 at *
  generalize ofQ (aB (ir z u) (st.take i))=O4 at *
  generalize ofQ (ir z u t)=F4 at *
  generalize hN5:ofQ (aB (dR z u) (st.take (i+1)))=N5 at *
  generalize ofQ (aB (dR z u) (st.take i))=O5 at *
  generalize ofQ (dR z u t)=F5 at *
  generalize hN6:ofQ (aB (ka z u) (st.take (i+1)))=N6 at *
  generalize ofQ (aB (ka z u) (st.take i))=O6 at *
  generalize ofQ (ka z u t)=F6 at *
  generalize ofQ (2*(jT t (bY z u t):Rat)*(jT t (bY z u t):Rat)*(jT t (bY z u t):Rat)*wQ t)=C0 at *
  generalize ofQ (tB t (bY z u t))=A0 at *
  generalize ofQ (FQ t (bY z u t))=M0 at *
  generalize ofQ (jT t (bY z u t):Rat)=H0 at *
  generalize jT t (bY z u t)=hh at *
  generalize ofQ (bY z u t)=Y0 at *
  generalize ofQ (wQ t)=W0 at *
  generalize ofQ (xQ t)=X0 at *
  generalize ofQ 2=T2 at *
  generalize ofQ 3=T3 at *
  refine aS hx ?_
  (repeat ((fail_if_success (with_reducible refine aQ 6 ?_));refine cx O ?_))
  refine fy [(10,12),(11,13),(12,14),(13,12),(14,13),(15,14)] aT aT ?_;refine G e1 ?_;refine G e2 ?_;refine G e3 ?_;refine H ?_;refine EZ O O O O O ?_;refine EZ O O O O O ?_;refine EZ O O O O O ?_;refine E0 2 O O O O O O (fun _=>rfl) aI O O O O ?_;refine E0 2 O O O O O O (fun _=>rfl) aI O O O O ?_;refine E0 2 O O O O O O (fun _=>rfl) aI O O O O ?_;refine G e4 ?_;refine H ?_;refine ca [] [9] 8 [8,9] aT aT ?_;refine H ?_;refine bE O O (cC O O O O O O O O O O aI O) ?_;refine G m1 ?_;refine G d1 ?_;refine H ?_;refine ca [] [9] 9 [9,10] aT aT ?_;refine H ?_;refine bE O O (cC O O O O O O O O O O aI O) ?_;refine G m2 ?_;refine G d2 ?_;refine H ?_;refine ca [] [9] 8 [8,9] aT aT ?_;refine H ?_;refine bE O O (cC O O O O O O O O O O aI O) ?_;refine G m3 ?_;refine G d3 ?_
  (repeat ((fail_if_success (with_reducible refine aQ 11 ?_));refine cx O ?_))
  refine bH [(2,I (d:Nat)),(3,.ptr 3 1 0 0),(4,.ptr 4 1 0 0),(6,.ptr 6 1 0 0),(9,.ptr 9 1 0 0),(28,.sl (st.map eT)),(29,I st.length),(30,I (i:Nat)),(11,.ptr 11 ((s1'.own 11).1+1) 0 0),(12,.ptr 12 ((s1'.own 12).1+1) 0 0),(13,.ptr 13 ((s1'.own 13).1+1) 0 0),(14,.ptr 14 ((s1'.own 14).1+1) 0 0)] [(3,1,⟨27,9,[fF ⟨nm,len,st,light,it⟩],2⟩),(4,1,⟨45,8,[eA ⟨az,au⟩],2⟩),(6,1,⟨217,36,[zN++zN++zN++zN++zN++zN++zN++zN++zN],2⟩),(9,1,⟨217,36,[DX N0 N1 N2 O3 O4 O5 O6],2⟩),(11,((s1'.own 11).1+1),⟨130,4,[eT t],2⟩),(12,((s1'.own 12).1+1),⟨42,4,[eR Y0],2⟩),(13,((s1'.own 13).1+1),⟨42,4,[eR W0],2⟩),(14,((s1'.own 14).1+1),⟨42,4,[eR X0],2⟩)] ⟨O,O,O,O,O,O,O,O,O,O,O,O,O,O,O,O,O,O,O,O,trivial⟩ ?_;generalize (s1'.own 11).1+1=g11;generalize (s1'.own 12).1+1=g12;generalize (s1'.own 13).1+1=g13;generalize (s1'.own 14).1+1=g14;intro s2';refine ar e5 ?_;refine G e6 ?_
  (repeat ((fail_if_success (with_reducible refine aQ 12 ?_));refine cx O ?_))
  refine aE (fM 17) ?_;refine aZ 5 1 [79,80,81,82,83,17] [] aT O ?_;refine G w2 ?_;refine H ?_;refine bE O O (cC O O O O O O O O O O aI O) ?_;refine G m4 ?_;refine G d4 ?_
  (repeat ((fail_if_success (with_reducible refine aQ 14 ?_));refine cx O ?_))
  refine bH [(2,I (d:Nat)),(3,.ptr 3 1 0 0),(4,.ptr 4 1 0 0),(6,.ptr 6 1 0 0),(9,.ptr 9 1 0 0),(28,.sl (st.map eT)),(29,I st.length),(30,I (i:Nat)),(11,.ptr 11 g11 0 0),(12,.ptr 12 g12 0 0),(13,.ptr 13 g13 0 0),(14,.ptr 14 g14 0 0),(16,.ptr 16 ((s2'.own 16).1+1) 0 0),(17,.ptr 17 ((s2'.own 17).1+3) 0 0)] [(3,1,⟨27,9,[fF ⟨nm,len,st,light,it⟩],2⟩),(4,1,⟨45,8,[eA ⟨az,au⟩],2⟩),(6,1,⟨217,36,[zN++zN++zN++zN++zN++zN++zN++zN++zN],2⟩),(9,1,⟨217,36,[DX N0 N1 N2 N3 O4 O5 O6],2⟩),(11,g11,⟨130,4,[eT t],2⟩),(12,g12,⟨42,4,[eR Y0],2⟩),(13,g13,⟨42,4,[eR W0],2⟩),(14,g14,⟨42,4,[eR X0],2⟩),(16,((s2'.own 16).1+1),⟨42,4,[eR H0],2⟩),(17,((s2'.own 17).1+3),⟨42,4,[eR F3],2⟩)] ⟨O,O,O,O,O,O,O,O,O,O,O,O,O,O,O,O,O,O,O,O,O,O,O,O,trivial⟩ ?_;generalize (s2'.own 16).1+1=g16;generalize (s2'.own 17).1+3=g17;intro s3';refine ca [] [9] 7 [7,8] aT aT ?_;refine H ?_;refine bE O O (cC O O O O O O O O O O aI O) ?_;refine G m5 ?_;refine G d5 ?_;refine H ?_;refine ca [] [9] 12 [12,13] aT aT ?_;refine G w2 ?_;refine H ?_;refine bE O O (cC O O O O O O O O O O aI O) ?_;refine G m6 ?_;refine G w3 ?_;refine G m7 ?_;refine G d6 ?_
  (repeat ((fail_if_success (with_reducible refine aQ 16 ?_));refine cx O ?_))
  refine bH [(2,I (d:Nat)),(3,.ptr 3 1 0 0),(4,.ptr 4 1 0 0),(6,.ptr 6 1 0 0),(9,.ptr 9 1 0 0),(28,.sl (st.map eT)),(29,I st.length),(30,I (i:Nat)),(11,.ptr 11 g11 0 0),(12,.ptr 12 g12 0 0),(13,.ptr 13 g13 0 0),(14,.ptr 14 g14 0 0),(16,.ptr 16 g16 0 0),(17,.ptr 17 g17 0 0)] [(3,1,⟨27,9,[fF ⟨nm,len,st,light,it⟩],2⟩),(4,1,⟨45,8,[eA ⟨az,au⟩],2⟩),(6,1,⟨217,36,[zN++zN++zN++zN++zN++zN++zN++zN++zN],2⟩),(9,1,⟨217,36,[DX N0 N1 N2 N3 N4 N5 O6],2⟩),(11,g11,⟨130,4,[eT t],2⟩),(12,g12,⟨42,4,[eR Y0],2⟩),(13,g13,⟨42,4,[eR W0],2⟩),(14,g14,⟨42,4,[eR X0],2⟩),(16,g16,⟨42,4,[eR H0],2⟩),(17,g17,⟨42,4,[eR F3],2⟩)] ⟨O,O,O,O,O,O,O,O,O,O,O,O,O,O,O,O,O,O,O,O,O,O,O,O,trivial⟩ ?_;intro s4';refine ca [] [9] 8 [8,9] aT aT ?_;refine H ?_;refine bE O O (cC O O O O O O O O O O aI O) ?_;refine G m8 ?_;refine G d7 ?_;refine H ?_;exact⟨i+1,hlt,J,O,O,O,O,O,O,O,congrArg I hw,O,O,O,by rw[hN0,hN1,hN2,hN3,hN4,hN5,hN6];rfl,trivial⟩
 have hie:i=st.length:=by have:=aG h;omega
 clear h;subst hie;rw[List.take_length];have k1:=s1 st.length;have k2:=s2 st.length;have k3:=s3 st.length;have k4:=s4 st.length;have k5:=s5 st.length;have k6:=s6 st.length;have k7:=s7 st.length;rw[List.take_length]at k1 k2 k3 k4 k5 k6 k7;clear s1 s2 s3 s4 s5 s6 s7 hsz hyq;have g0:=yA (ofQ (aB (bJ z u) st)) (hx:=Vq.ofQ (h:=k1)) J;rw[decide_eq_false hv0]at g0;have g1:=AF (aB (bJ z u) st) (N+16) k1.ok J d hd1 hd2;have g2:=i8 (ofQ (aB (pW z u) st)) (ofQ (aB (bJ z u) st)) (hx:=Vq.ofQ (h:=k2)) (hy:=Vq.ofQ (h:=k1)) J J hv0;have g3:=i8 (ofQ (aB (kn z u) st)) (ofQ (aB (bJ z u) st)) (hx:=Vq.ofQ (h:=k3)) (hy:=Vq.ofQ (h:=k1)) J J hv0;have g4:=yA (ofQ (aB (cd z u) st)) (hx:=Vq.ofQ (h:=k4)) Y;have g5:=i8 (ofQ (aB (dR z u) st)) (ofQ (aB (bJ z u) st)) (hx:=Vq.ofQ (h:=k6)) (hy:=Vq.ofQ (h:=k1)) J J hv0;have g6:=cJ (ofQ (aB (kn z u) st/aB (bJ z u) st)) (ofQ (aB (dR z u) st/aB (bJ z u) st)) (hx:=Vq.ofQ (h:=@HQ.div _ _ _ _ k3 k1)) (hy:=Vq.ofQ (h:=@HQ.div _ _ _ _ k6 k1)) J J;have hcases:(aB (cd z u) st=0/\Hq (nO st d z u)=eR (ofQ (aB (bJ z u) st))++eR (ofQ (aB (bJ z u) st*((d:Rat)/1000000000)))++eR (ofQ (aB (pW z u) st/aB (bJ z u) st))++eR (ofQ (aB (kn z u) st/aB (bJ z u) st))++eR (ofQ (aB (cd z u) st))++eR (ofQ 0)++eR (ofQ (aB (dR z u) st))++eR (ofQ 0)++eR (ofQ (aB (kn z u) st/aB (bJ z u) st+aB (dR z u) st/aB (bJ z u) st))) \/
  (aB (cd z u) st≠0/\∃f l:Rat,f=aB (ir z u) st/aB (cd z u) st/\l=aB (ka z u) st-aB (cd z u) st*f*f/\Hq (nO st d z u)=eR (ofQ (aB (bJ z u) st))++eR (ofQ (aB (bJ z u) st*((d:Rat)/1000000000)))++eR (ofQ (aB (pW z u) st/aB (bJ z u) st))++eR (ofQ (aB (kn z u) st/aB (bJ z u) st))++eR (ofQ (aB (cd z u) st))++eR (ofQ f)++eR (ofQ (aB (dR z u) st))++eR (ofQ l)++eR (ofQ (aB (kn z u) st/aB (bJ z u) st+aB (dR z u) st/aB (bJ z u) st))):=Al st d z u
 generalize Hq (nO st d z u)=RES at *
 rcases hcases with⟨hA,hres⟩|⟨hA,f,l,hf,hl,hres⟩
 .subst hres;rw[decide_eq_true hA]at g4;clear k1 k2 k3 k4 k5 k6 k7 hA hv0;generalize ofQ (aB (kn z u) st/aB (bJ z u) st+aB (dR z u) st/aB (bJ z u) st)=G0 at *
  generalize ofQ (aB (bJ z u) st*((d:Rat)/1000000000))=G1 at *
  generalize ofQ (aB (pW z u) st/aB (bJ z u) st)=G2 at *
  generalize ofQ (aB (kn z u) st/aB (bJ z u) st)=G3 at *
  generalize ofQ (aB (dR z u) st/aB (bJ z u) st)=G4 at *
  generalize ofQ (aB (bJ z u) st)=G5 at *
  generalize ofQ (aB (pW z u) st)=G6 at *
  generalize ofQ (aB (kn z u) st)=G7 at *
  generalize ofQ (aB (cd z u) st)=G8 at *
  generalize ofQ (aB (ir z u) st)=G9 at *
  generalize ofQ (aB (dR z u) st)=G10 at *
  generalize ofQ (aB (ka z u) st)=G11 at *
  generalize ofQ 0=G12 at *
  refine ar g0 ?_;refine G g1 ?_;refine H ?_;refine ca [] [9] 11 [11,12,13] aT aT ?_;refine G g2 ?_;refine G g3 ?_
  (repeat ((fail_if_success (with_reducible refine aQ 22 ?_));refine cx O ?_))
  refine bH [(6,.ptr 6 1 0 0),(9,.ptr 9 1 0 0)] [(6,1,⟨217,36,[zN++zN++zN++zN++zN++zN++zN++zN++zN],2⟩),(9,1,⟨217,36,[eR G5++eR G1++eR G2++eR G3++eR G8++eR G9++eR G10++eR G11++zN],2⟩)] ⟨O,O,O,O,trivial⟩ ?_;intro s5;refine ar g4 ?_;refine G w0 ?_;refine G w0 ?_
  (repeat ((fail_if_success (with_reducible refine aQ 26 ?_));refine cx O ?_))
  refine bH [(6,.ptr 6 1 0 0),(9,.ptr 9 1 0 0)] [(6,1,⟨217,36,[zN++zN++zN++zN++zN++zN++zN++zN++zN],2⟩),(9,1,⟨217,36,[eR G5++eR G1++eR G2++eR G3++eR G8++eR G12++eR G10++eR G12++zN],2⟩)] ⟨O,O,O,O,trivial⟩ ?_;intro s6;refine ca [] [9] 8 [8,9] aT aT ?_;refine G g5 ?_;refine G g6 ?_;exact bV
 .subst hres;rw[decide_eq_false hA]at g4;have g7:=i8 (ofQ (aB (ir z u) st)) (ofQ (aB (cd z u) st)) (hx:=Vq.ofQ (h:=k5)) (hy:=Vq.ofQ (h:=k4)) Y Y hA;rw[<-hf]at g7;have hfq:HQ f 220:=by rw[hf];exact(@HQ.div _ _ _ _ k5 k4).mono Y
  have g8:=tu (aB (cd z u) st) f f 220 (k4.mono Y).ok hfq.ok hfq.ok Y;have g9:=jc (ofQ (aB (ka z u) st)) (ofQ (aB (cd z u) st*f*f)) (hx:=Vq.ofQ (h:=k7)) (hy:=Vq.ofQ (h:=@HQ.mul _ _ _ _ (@HQ.mul _ _ _ _ k4 hfq) hfq)) Y Y;rw[<-hl]at g9;clear k1 k2 k3 k4 k5 k6 k7 hA hv0 hfq;generalize ofQ (aB (kn z u) st/aB (bJ z u) st+aB (dR z u) st/aB (bJ z u) st)=G0 at *
  generalize ofQ (aB (bJ z u) st*((d:Rat)/1000000000))=G1 at *
  generalize ofQ (aB (pW z u) st/aB (bJ z u) st)=G2 at *
  generalize ofQ (aB (kn z u) st/aB (bJ z u) st)=G3 at *
  generalize ofQ (aB (dR z u) st/aB (bJ z u) st)=G4 at *
  generalize ofQ (aB (cd z u) st*f*f)=G5 at *
  generalize ofQ f=G6 at *
  generalize ofQ l=G7 at *
  generalize ofQ (aB (bJ z u) st)=G8 at *
  generalize ofQ (aB (pW z u) st)=G9 at *
  generalize ofQ (aB (kn z u) st)=G10 at *
  generalize ofQ (aB (cd z u) st)=G11 at *
  generalize ofQ (aB (ir z u) st)=G12 at *
  generalize ofQ (aB (dR z u) st)=G13 at *
  generalize ofQ (aB (ka z u) st)=G14 at *
  generalize ofQ 0=G15 at *
  refine ar g0 ?_;refine G g1 ?_;refine H ?_;refine ca [] [9] 11 [11,12,13] aT aT ?_;refine G g2 ?_;refine G g3 ?_
  (repeat ((fail_if_success (with_reducible refine aQ 22 ?_));refine cx O ?_))
  refine bH [(6,.ptr 6 1 0 0),(9,.ptr 9 1 0 0)] [(6,1,⟨217,36,[zN++zN++zN++zN++zN++zN++zN++zN++zN],2⟩),(9,1,⟨217,36,[eR G8++eR G1++eR G2++eR G3++eR G11++eR G12++eR G13++eR G14++zN],2⟩)] ⟨O,O,O,O,trivial⟩ ?_;intro s5;refine ar g4 ?_;refine G g7 ?_;refine H ?_;refine ca [] [9] 11 [11,12] aT aT ?_;refine H ?_;refine bE O O (cC O O O O O O O O O O aI O) ?_;refine G g8 ?_;refine G g9 ?_
  (repeat ((fail_if_success (with_reducible refine aQ 26 ?_));refine cx O ?_))
  refine bH [(6,.ptr 6 1 0 0),(9,.ptr 9 1 0 0)] [(6,1,⟨217,36,[zN++zN++zN++zN++zN++zN++zN++zN++zN],2⟩),(9,1,⟨217,36,[eR G8++eR G1++eR G2++eR G3++eR G11++eR G6++eR G13++eR G7++zN],2⟩)] ⟨O,O,O,O,trivial⟩ ?_;intro s6;refine ca [] [9] 8 [8,9] aT aT ?_;refine G g5 ?_;refine G g6 ?_;exact bV
def mJ (s:SHP):List LR:=s.light::s.it
def qZ (s:SHP):Rat:=(sZ (mJ s):Rat)/(sM (mJ s):Rat)
def mQ (s:SHP):Rat:=(sM (mJ s):Rat)
def iH (s:SHP)(p:Rat):Rat:=mQ s-p
def I_ (s:SHP):Rat:=((1000*sF (mJ s):Int):Rat)
def FP (s:SHP)(p me:Rat):Rat:=iH s p*me-mQ s*qZ s-I_ s
def IW (s:SHP)(p me:Rat):STQ:=⟨ofQ me,ofQ (qZ s),ofQ (FP s p me/mQ s),ofQ (FP s p me/iH s p)⟩
theorem FM {st:List ST}(hs:∀t∈st,StOk t)(h8:∀t∈st,t.L.length<=8)(h6:st.length<=6)(d:Nat){z u:Rat}{n m:Nat}(hz:hq z n)(hu:hq u m):HQ (nO st d z u).mtc (6*(n+m)+600):=by
 obtain⟨k1,k2,k3⟩:=zg hs h8 h6 hz hu st.length;have b6:∀t∈st,hq (dR z u t) 24:=fun t ht=>by
  have ok:=hs t ht;have hw:=ok.w;have ha:=CQ ok (bY z u t);have zw:Zb t.w:=aK J J;have za:Zb (jT t (bY z u t)):=aK J J;exact Ih HQ.int HQ.int
 have k6:=jH b6 h6 st.length;rw[List.take_length]at k1 k3 k6;have e:(nO st d z u).mtc=aB (kn z u) st/aB (bJ z u) st+aB (dR z u) st/aB (bJ z u) st:=O;rw[e];exact(@HQ.add _ _ _ _ (@HQ.div _ _ _ _ k3 k1) (@HQ.div _ _ _ _ k6 k1)).mono J
structure StbOk (s:SHP) (p me:Rat) (k:Nat):Prop where
 ld:∀w∈mJ s,OkW w
 m:1<=sM (mJ s)
 n:(mJ s).length<=61
 hp:hq p k
 hme:hq me 400000
 hk:k<=1000000
 p0:0<=p
 l0:0<iH s p
set_option maxRecDepth 20000 in
set_option maxHeartbeats 4000000 in
theorem Ex (s:SHP)(d:Nat)(a:AR)(H0:HYQ)(p:Rat){k:Nat}(ok:StbOk s p H0.mtc k)(h1:Ret Tryz.prog .shared 170 [.agg (fF s),I (d:Nat)] (I 0))(h3:Ret Tryz.prog .shared 193 [.agg (fF s),.agg (eA a),I (d:Nat)] (.tup [.agg (Hq H0),.bool true])):Ret Tryz.prog .shared 138 [.agg (fF s),.agg (eA a),.agg ([I (d:Nat)]++eR (ofQ p))] (.tup [.agg (Fx (IW s p H0.mtc)),I 0]):=by
 have h4:=pY s (mJ s) O ok.ld ok.m ok.n;have w0:=bZ 0 ⟨Y,Y⟩;rw[show((0:Int):Rat)=0 from O]at w0;obtain⟨⟨t1,t2⟩,⟨t3,t4⟩,⟨t5,t6⟩,t7,t8⟩:=gS ok.ld;have hn:=ok.n;have hm:=ok.m;have hk:=ok.hk;have zM:Zb (sM (mJ s)):=aK J J;have zZ:Zb (sZ (mJ s)):=aK J J;have zF:Zb (1000*sF (mJ s)):=aK J J;have qM:HQ (mQ s) 4:=HQ.int;have qG:HQ (qZ s) 8:=@HQ.div _ _ 4 4 (HQ.int (z:=sZ (mJ s))) (HQ.int (z:=sM (mJ s)));have qF:HQ (I_ s) 4:=HQ.int;have qL:HQ (iH s p) (4+k+1):=@HQ.sub _ _ 4 k qM ⟨ok.hp⟩;have qme:HQ H0.mtc 400000:=⟨ok.hme⟩;have v1:=@HQ.mul _ _ _ _ qL qme;have v2:=@HQ.mul _ _ _ _ qM qG;have v3:=@HQ.sub _ _ _ _ v1 v2;have v4:HQ (FP s p H0.mtc) _:=@HQ.sub _ _ _ _ v3 qF;have r1:IntKind.i64.wrap (1000*sF (mJ s))=1000*sF (mJ s):=wrap_i64 J J;have wM:=bZ (sM (mJ s)) ⟨J,J⟩;rw[show((sM (mJ s):Int):Rat)=mQ s from O]at wM;have wF:=bZ (1000*sF (mJ s)) ⟨J,J⟩;rw[show((1000*sF (mJ s):Int):Rat)=I_ s from O]at wF;have c1:=jc (ofQ (mQ s)) (ofQ p) (hx:=Vq.ofQ (h:=qM)) (hy:=Vq.ofQ (h:=⟨ok.hp⟩)) Y J;rw[show mQ s-p=iH s p from O]at c1;have c2:=i9 (ofQ p) (ofQ 0) (hx:=Vq.ofQ (h:=⟨ok.hp⟩)) (hy:=Vq.ofQ (h:=HQ.zero)) J Y;have c3:=i9 (ofQ (iH s p)) (ofQ 0) (hx:=Vq.ofQ (h:=qL)) (hy:=Vq.ofQ (h:=HQ.zero)) J Y;have hp0:¬sgn (p-0)<0:=fun e=>by have:=(cP _).1 e;have:=ok.p0;grind
 have hl0:¬sgn (iH s p-0)<=0:=fun e=>by have:=(pI _).1 e;have:=ok.l0;grind
 have m1:=jI (iH s p) H0.mtc (k+400005) (qL.mono J).ok (qme.mono J).ok J;have m2:=jI (mQ s) (qZ s) 8 (qM.mono Y).ok qG.ok Y;have c4:=jc (ofQ (iH s p*H0.mtc)) (ofQ (mQ s*qZ s)) (hx:=Vq.ofQ (h:=v1)) (hy:=Vq.ofQ (h:=v2)) J Y;have c5:=jc (ofQ (iH s p*H0.mtc-mQ s*qZ s)) (ofQ (I_ s)) (hx:=Vq.ofQ (h:=v3)) (hy:=Vq.ofQ (h:=qF)) J Y;rw[show iH s p*H0.mtc-mQ s*qZ s-I_ s=FP s p H0.mtc from O]at c5;have hMne:mQ s≠0:=by
  have:sM (mJ s)≠0:=J;rw[mQ]
  exact_mod_cast this
 have hLne:iH s p≠0:=fun e=>by have:=ok.l0;rw[e]at this;exact absurd this Y
 have c6:=i8 (ofQ (FP s p H0.mtc)) (ofQ (mQ s)) (hx:=Vq.ofQ (h:=v4)) (hy:=Vq.ofQ (h:=qM)) J Y hMne;have c7:=i8 (ofQ (FP s p H0.mtc)) (ofQ (iH s p)) (hx:=Vq.ofQ (h:=v4)) (hy:=Vq.ofQ (h:=qL)) J J hLne;rw[tv,show(sZ (mJ s):Rat)/(sM (mJ s):Rat)=qZ s from O]at h4;rw[IW];clear v1 v2 v3 v4 qM qG qF qL qme hMne hLne zM zZ zF ok;obtain⟨H1,H2,H3,H4,H5,H6,H7,H8,me⟩:=H0;rw[Hq]at h3;simp only at *
 generalize ofQ (FP s p me/mQ s)=G1 at *
 generalize ofQ (FP s p me/iH s p)=G2 at *
 generalize ofQ (FP s p me)=G3 at *
 generalize ofQ (iH s p*me-mQ s*qZ s)=G4 at *
 generalize ofQ (iH s p*me)=G5 at *
 generalize ofQ (mQ s*qZ s)=G6 at *
 generalize sgn (p-0)=g1 at *
 generalize sgn (iH s p-0)=g2 at *
 generalize ofQ (iH s p)=G7 at *
 generalize ofQ (mQ s)=G8 at *
 generalize ofQ (qZ s)=G9 at *
 generalize ofQ (I_ s)=G10 at *
 generalize ofQ p=G11 at *
 generalize ofQ me=G12 at *
 generalize ofQ ((sX (mJ s):Rat)/(sM (mJ s):Rat))=G13 at *
 generalize ofQ 0=Z at *
 generalize sM (mJ s)=im at *
 generalize sF (mJ s)=jf at *
 generalize ofQ H1=J1 at *
 generalize ofQ H2=J2 at *
 generalize ofQ H3=J3 at *
 generalize ofQ H4=J4 at *
 generalize ofQ H5=J5 at *
 generalize ofQ H6=J6 at *
 generalize ofQ H7=J7 at *
 generalize ofQ H8=J8 at *
 obtain⟨az,au⟩:=a;refine Ret.of_pwp layOk mixed Go.Proofs.Tryz.func138 O Y O O ?_;refine ar h1 ?_;refine G h3 ?_;refine G h4 ?_;refine H ?_;refine aZ 6 1 [35,36,37,38,39,40,12] [] aT O ?_;refine G wM ?_;refine G c1 ?_;refine cn 11 [41,42,43,44,45,46,47,48,49,50,51] ?_;refine G w0 ?_;refine ar c2 ?_;refine H ?_;rw[decide_eq_false hp0];refine G w0 ?_;refine ar c3 ?_;refine H ?_;rw[decide_eq_false hl0];refine H ?_;refine aZ 18 1 [53,54,55,56,57,58,59,60,61,62,63,64,65,66,67,68,69,70,13] [] aT O ?_;refine H ?_;refine bE O O (cC O O O O O O O O O O aI O) ?_;refine G m1 ?_;refine G wM ?_;refine H ?_;refine bE O O (cC O O O O O O O O O O aI O) ?_;refine G m2 ?_;refine G c4 ?_;refine H ?_;rw[r1];refine nR O O O wF O O ?_;refine G c5 ?_;refine H ?_
 (repeat ((fail_if_success (with_reducible refine aQ 12 ?_));refine cx O ?_))
 refine bH [(6,.ptr 6 1 0 0),(9,.ptr 9 1 0 0),(11,.ptr 11 1 0 0),(12,.ptr 12 1 0 0),(13,.ptr 13 1 0 0)] [(6,1,⟨48,16,[BF],2⟩),(9,1,⟨217,36,[[.bool J1.n.neg,.sl (J1.n.l.map eU),.bool J1.d.neg,.sl (J1.d.l.map eU),.bool J2.n.neg,.sl (J2.n.l.map eU),.bool J2.d.neg,.sl (J2.d.l.map eU),.bool J3.n.neg,.sl (J3.n.l.map eU),.bool J3.d.neg,.sl (J3.d.l.map eU),.bool J4.n.neg,.sl (J4.n.l.map eU),.bool J4.d.neg,.sl (J4.d.l.map eU),.bool J5.n.neg,.sl (J5.n.l.map eU),.bool J5.d.neg,.sl (J5.d.l.map eU),.bool J6.n.neg,.sl (J6.n.l.map eU),.bool J6.d.neg,.sl (J6.d.l.map eU),.bool J7.n.neg,.sl (J7.n.l.map eU),.bool J7.d.neg,.sl (J7.d.l.map eU),.bool J8.n.neg,.sl (J8.n.l.map eU),.bool J8.d.neg,.sl (J8.d.l.map eU),.bool G12.n.neg,.sl (G12.n.l.map eU),.bool G12.d.neg,.sl (G12.d.l.map eU)]],2⟩),(11,1,⟨61,10,[[I im,.bool G13.n.neg,.sl (G13.n.l.map eU),.bool G13.d.neg,.sl (G13.d.l.map eU),.bool G9.n.neg,.sl (G9.n.l.map eU),.bool G9.d.neg,.sl (G9.d.l.map eU),I jf]],2⟩),(12,1,⟨42,4,[[.bool G7.n.neg,.sl (G7.n.l.map eU),.bool G7.d.neg,.sl (G7.d.l.map eU)]],2⟩),(13,1,⟨42,4,[[.bool G3.n.neg,.sl (G3.n.l.map eU),.bool G3.d.neg,.sl (G3.d.l.map eU)]],2⟩)] ⟨O,O,O,O,O,O,O,O,O,O,trivial⟩ ?_;intro s12;refine jX 13 [71,72,73,74,75,76,77,78,79,80,81,82,83] aT ?_;refine G wM ?_;refine G c6 ?_;refine G c7 ?_;exact bV
def tQ (d:DKR)(p z t:Rat):STQ:=if bF ((vQ d p z t).drop d.bl.length)=0 then HV else IW d.s (bF ((vQ d p z t).take d.bl.length)) (nO d.s.st (fa d) (z+p) t).mtc
theorem wc {d:DKR}{p z t:Rat}(h:Slim d p)(hs:Stood d p z t):hq (bF ((vQ d p z t).take d.bl.length)) 600000/\hq (bF ((vQ d p z t).drop d.bl.length)) 600000:=by
 have hl:=EV d p z t;have h5:=h.bl;have h6:=h.st;have h1:=tq (N:=50000) (l:=(vQ d p z t).take d.bl.length) fun q hq=>EU h hs q (List.mem_of_mem_take hq);have h2:=tq (N:=50000) (l:=(vQ d p z t).drop d.bl.length) fun q hq=>EU h hs q (List.mem_of_mem_drop hq);rw[List.length_take]at h1;rw[List.length_drop]at h2;exact⟨dl h1 J,dl h2 J⟩
theorem Js {d:DKR}{p z t:Rat}(h:Slim d p)(hs:Stood d p z t):0<=bF ((vQ d p z t).take d.bl.length)/\0<=bF ((vQ d p z t).drop d.bl.length) :=
 ⟨zf fun q hq=>HR h hs q (List.mem_of_mem_take hq),zf fun q hq=>HR h hs q (List.mem_of_mem_drop hq)⟩
theorem kY {d:DKR}{p z t:Rat}(hs:Stood d p z t):bF ((vQ d p z t).take d.bl.length)+bF ((vQ d p z t).drop d.bl.length)=(sM (d.s.light::d.s.it):Rat):=by
 rw[xW,E7 hs.bal];rfl
theorem GF {d:DKR}{p z t:Rat}(hl:d.Len)(h:Slim d p)(hs:Stood d p z t)(hb:bF ((vQ d p z t).drop d.bl.length)≠0):Ret Tryz.prog .shared 138 [.agg (fF d.s),.agg (eR (ofQ (z+p))++eR (ofQ t)),.agg ([I d.d]++eR (ofQ (bF ((vQ d p z t).take d.bl.length))))] (.tup [.agg (Fx (tQ d p z t)),I 0]):=by
 obtain⟨hk,hd,hf⟩:=h.bd;have ok:=j1 (jm hf);have hdn:=nZ hd;have hv0:aB (bJ (z+p) t) d.s.st≠0:=fun e=>hb (by
  rw[Ie hk.st];show aB (bJ (z+p) t) d.s.st*_=0
  rw[e];grind)
 have hz:=hs.hz;have ht:=hs.ht;have hp:HQ p 4:=⟨h.p⟩;have hzp:HQ (z+p) 24005:=@HQ.add _ _ 24000 4 hz hp;have va:Va ⟨ofQ (z+p),ofQ t⟩ (z+p) t 24005 20000:=⟨Vq.ofQ (h:=hzp),Vq.ofQ (h:=ht)⟩;have h3:=Am d.s hk.st h.st h.L ⟨ofQ (z+p),ofQ t⟩ (ha:=va) Y (fa d) J J hv0;have h1:=ny d.s hl.s d.d;rw[hf,<-hdn]at h1;have me:=FM hk.st h.L h.st (fa d) hzp.ok ht.ok;have hms:=kY hs;have hnn:=Js h hs;have sok:StbOk d.s (bF ((vQ d p z t).take d.bl.length)) (nO d.s.st (fa d) (z+p) t).mtc 600000 :=
  ⟨ok.ld,ok.m,by have:=ok.n;show(d.s.light::d.s.it).length<=61;simp;omega,(wc h hs).1,(me.mono Y).ok,Y,hnn.1,by
   rw[iH,mQ,mJ]
   grind⟩
 have:=Ex d.s (fa d) ⟨ofQ (z+p),ofQ t⟩ _ _ sok h1 h3;rw[hdn]at this;rw[tQ,if_neg hb];exact this
def Lc (d:DKR)(p z t:Rat):DQ:=Jw d p ⟨ofQ z,ofQ t⟩ (vQ d p z t) (tQ d p z t)
theorem rU {d:DKR}{p:Rat}(hl:d.Len)(h:Slim d p):Ret Tryz.prog .shared 95 [.agg (fF d.s),.sl ((bX d p).map eS)] (.tup [.agg (eB (if ci (dB d p)=0 then dB d p else tP)),I (ci (dB d p))]):=by
 obtain⟨hk,hd,hf⟩:=h.bd;have h12:(bX d p).length<=1000:=by rw[gG];have:=h.st;have:=h.bl;omega
 have hM:∀x∈bX d p,x.k.M.length<=1000:=fun x hx=>by
  rcases ij hx with⟨b,-,rfl⟩|⟨t,ht,rfl⟩
  .show 1<=1000;decide
  .show(ol (fa d) t).length<=1000;rw[Ei];have:=(hk.st t ht).h;have:=h.L t ht;omega
 have:=wg d.s hl.s (jm hf) (bX d p) (si h) (by rw[Dv];exact si h) h12 hM;rw[Dv]at this;exact this
theorem GB {b:BR}(h:ci b≠0):fH b=⟨zA,[],zA,ci b⟩:=by rw[fH,if_neg h]
theorem Ia {d:DKR}{lv:RR}{p z t:Rat}{n:Nat}[hlv:Vq lv p n](hn:n<=1000000)(hl:d.Len)(h:Slim d p)(hs:Stood d p z t):Ret Tryz.prog .shared 21 [.agg (fS d),.agg (eR lv)] (.tup [.agg (yw (Lc d p z t)),I 0]):=by
 obtain⟨hk,hd,hf⟩:=h.bd;have hsup:=ic d hk hd hf hl.s lv (hv:=hlv) J;have h95:=rU hl h;rw[if_pos hs.e,hs.e]at h95;have h78:=pT (dB d p) (jQ h).1 fun _=>(jQ h).2;rw[hs.s,SQ.pv,Jj]at h78;have hll:=EV d p z t;have h5:=h.bl;have h6:=h.st;have hz:=hs.hz;refine B7 d h.ok h.e lv _ 0 (vR d lv (hlv:=hlv) hn hsup (dB d p) h95 (ofQ z) (ofQ t) RR.zero RR.zero (vQ d p z t) (fun q hq=>dl (EU h hs q hq) Y) J J h78 (tQ d p z t) (hz:=Vq.ofQ (h:=hz)) Y (GF hl h hs) fun e=>by rw[tQ,if_pos e])
theorem H_ {d:DKR}{lv:RR}{p:Rat}{n:Nat}[hlv:Vq lv p n](hn:n<=1000000)(hl:d.Len)(h:Slim d p)(he:(fH (dB d p)).e≠0):Ret Tryz.prog .shared 21 [.agg (fS d),.agg (eR lv)] (.tup [.agg (yw dZ),I (fH (dB d p)).e]):=by
 obtain⟨hk,hd,hf⟩:=h.bd;have hsup:=ic d hk hd hf hl.s lv (hv:=hlv) J;have h95:=rU hl h;refine B7 d h.ok h.e lv _ _ ?_;by_cases hb:ci (dB d p)=0
 .rw[if_pos hb,hb]at h95;exact xP d lv hsup (dB d p) h95 (fH (dB d p)) he (pT (dB d p) (jQ h).1 fun _=>(jQ h).2)
 .rw[GB hb];exact xR d lv hsup _ _ hb h95
theorem yc {d:DKR}{lv:RR}{p:Rat}{n:Nat}[hlv:Vq lv p n](hn:n<=1000000)(hl:d.Len)(h:Slim d p):∃(x:DQ) (e:Int),Ret Tryz.prog .shared 21 [.agg (fS d),.agg (eR lv)] (.tup [.agg (yw x),I e])/\(e=0->∃z t,Stood d p z t/\x=Lc d p z t):=by
 by_cases he:(fH (dB d p)).e=0
 .obtain⟨z,t,hs⟩:=Kn h he;exact⟨_,_,Ia (hlv:=hlv) hn hl h hs,fun _=>⟨z,t,hs,O⟩⟩
 .exact⟨_,_,H_ (hlv:=hlv) hn hl h he,fun e=>absurd e he⟩
theorem Iu {lv:RR}(h:lv.sz 3){n:Int}(hn:0<=n/\n<=65535):hq (lv.val-(n:Rat)) 4:=by
 obtain⟨a,b,e,h0,h1,h2⟩:=x8 h Y;have hb:(b:Rat)≠0:=by exact_mod_cast h0
 have e2:lv.val-(n:Rat)=((a-n*b:Int):Rat)/(b:Rat):=by
  rw[e,Rat.intCast_sub,Rat.intCast_mul];grind
 have k3:(65536:Nat)^3=281474976710656:=Y;have k4:(65536:Nat)^4=18446744073709551616:=Y;rw[k3]at h1 h2;have m1:(n*b).natAbs<=65535*b.natAbs:=by
  rw[Int.natAbs_mul];exact Nat.mul_le_mul_right _ J
 have m2:(a-n*b).natAbs<=a.natAbs+(n*b).natAbs:=Int.natAbs_sub_le a (n*b);rw[e2];exact gc h0 J J
theorem y8 {d:DKR}(hl:d.Len)(hS:HM d=true)(hE:wr d=0){p:Rat}(hp:hq p 4):Slim d p:=by
 have sm:=HN hS;obtain⟨hk,-,-⟩:=Cs (sm.ok hl) hE;simp only[HM,Kk,HO,IT,Bool.and_eq_true,Bool.not_eq_true',decide_eq_false_iff_not,List.all_eq_true]at hS;obtain⟨⟨⟨⟨⟨h1,h2⟩,-⟩,h3⟩,h4⟩,-⟩:=hS;have hn:=hk.n;have hm:=hk.m;refine⟨sm.ok hl,hE,J,J,fun t ht=>?_,sm.b,hp⟩;have:=h2 t ht;simp only[xE,Bool.not_eq_true',decide_eq_false_iff_not]at this;have:=(hk.st t ht).n;omega
theorem oB {d:DKR}{p q:Rat}{i:Nat}(hi:i<d.bl.length):(bX d p).getD i dS=(bX d q).getD i dS:=by
 have hb:(cG d.s.st d.bl).length=d.bl.length:=by rw[cG,List.length_map]
 rw[bX,bX,List.getD_eq_getElem?_getD,List.getD_eq_getElem?_getD,List.getElem?_append_left J,List.getElem?_append_left J]
theorem oC {d:DKR}(p q:Rat){i:Nat}(h1:d.bl.length<=i)(h2:i<d.bl.length+d.s.st.length):∃w:SR,(bX d p).getD i dS=rc p w/\(bX d q).getD i dS=rc q w:=by
 have hb:(cG d.s.st d.bl).length=d.bl.length:=by rw[cG,List.length_map]
 obtain⟨w,hw⟩:=aJ (l:=dq (fa d) d.s.st) (k:=i-d.bl.length) (by rw[dq,List.length_map];omega);refine⟨w,?_,?_⟩<;>(rw[bX,List.getD_eq_getElem?_getD,List.getElem?_append_right J,hb,List.getElem?_map,hw];rfl)
theorem EP {s1 s2:SR}(hk:s2.k=s1.k)(hc:Crv s1.k.S.length s1.k.s s1.k.m)(z t z' t':Rat):0<=(fQ s1 z t-fQ s2 z' t')*(yQ s1 z t-yQ s2 z' t'):=by
 rw[fQ,fQ,hk];generalize yQ s1 z t=y1;generalize yQ s2 z' t'=y2;by_cases hy:y1<=y2
 .have h1:=iB hc hy;have e:(fK s1.k.S.length s1.k.s s1.k.m y1-fK s1.k.S.length s1.k.s s1.k.m y2)*(y1-y2)=(fK s1.k.S.length s1.k.s s1.k.m y2-fK s1.k.S.length s1.k.s s1.k.m y1)*(y2-y1):=aW;rw[e];exact Rat.mul_nonneg aW aW
 .have h1:=iB hc (x:=y2) (z:=y1) aW;exact Rat.mul_nonneg aW aW
theorem Bu (f1 f2 X e:Nat->Rat)(a c:Rat):∀m,am (fun i=>(f1 i-f2 i)*(a+c*X i+e i)) m=(am f1 m-am f2 m)*a+(am (fun i=>f1 i*X i) m-am (fun i=>f2 i*X i) m)*c+am (fun i=>(f1 i-f2 i)*e i) m:=by
 intro m
 induction m with
 |zero=>simp only[am];grind
 |succ m ih=>simp only[am];rw[ih];grind
theorem EE (g:Nat->Rat)(nb:Nat)(δ:Rat):∀k,am (fun i=>g i*(if i<nb then 0 else δ)) (nb+k)=δ*(am g (nb+k)-am g nb):=by
 intro k
 induction k with
 |zero =>
  rw[Nat.add_zero,nh fun i hi=>by rw[if_pos hi];grind];grind
 |succ k ih =>
  rw[<-Nat.add_assoc,am,ih,am,if_neg J];grind
theorem pV {f g:Nat->Rat}:∀ {n:Nat},am (fun k=>f k-g k) n=am f n-am g n
 |0=>by rw[am,am,am];grind
 |n+1=>by rw[am,am,am,pV];grind
theorem Ki {d:DKR}{p q z t z' t':Rat}(h1:Slim d p)(hs1:Stood d p z t)(hs2:Stood d q z' t')(hpq:q<=p):bF ((vQ d p z t).take d.bl.length)<=bF ((vQ d q z' t').take d.bl.length):=by
 by_cases he:q=p
 .subst he;have h:=hs1.s.symm.trans hs2.s;have e1:ofQ z=ofQ z':=congrArg (fun x:SQ=>x.a.z) h;have e2:ofQ t=ofQ t':=congrArg (fun x:SQ=>x.a.t) h;have e1:z=z':=by rw[<-ofQ_val z,e1,ofQ_val]
  have e2:t=t':=by rw[<-ofQ_val t,e2,ofQ_val]
  rw[e1,e2];exact Rat.le_refl
 have hd:0<p-q:=aW;have hb1:=hs1.okB h1;rw[ET,ET];have hN:(bd (dB d p)).N=d.bl.length+d.s.st.length:=gG d p;have hN2:(bd (dB d q)).N=d.bl.length+d.s.st.length:=gG d q;obtain⟨F1,G1⟩:=hs1.bal;obtain⟨F2,G2⟩:=hs2.bal;rw[Bd.F,hN]at F1;rw[Bd.F,hN2]at F2;rw[Bd.G0,hN]at G1;rw[Bd.G0,hN2]at G2;have hX:∀i,i<d.bl.length+d.s.st.length->(bd (dB d q)).X i=(bd (dB d p)).X i:=fun i hi=>by
  show(((bX d q).getD i dS).x:Rat)=(((bX d p).getD i dS).x:Rat);rcases Nat.lt_or_ge i d.bl.length with g|g
  .rw[oB (p:=q) (q:=p) g]
  .obtain⟨w,e1,e2⟩:=oC p q g hi;rw[e1,e2];rfl
 have hterm:∀i,i<d.bl.length+d.s.st.length->0<=((bd (dB d p)).f z t i-(bd (dB d q)).f z' t' i)*((z-z')+(t-t')*(bd (dB d p)).X i+(if i<d.bl.length then 0 else p-q)):=fun i hi=>by
  have hc:Crv ((bX d p).getD i dS).k.S.length ((bX d p).getD i dS).k.s ((bX d p).getD i dS).k.m:=(il hb1).crv i (by rw[hN];exact hi);have key:=EP (s1:=(bX d p).getD i dS) (s2:=(bX d q).getD i dS) (by
   rcases Nat.lt_or_ge i d.bl.length with g|g
   .rw[oB (p:=q) (q:=p) g]
   .obtain⟨w,e1,e2⟩:=oC p q g hi
    rw[e1,e2];rfl) hc z t z' t'
  have ey:yQ ((bX d p).getD i dS) z t-yQ ((bX d q).getD i dS) z' t'=(z-z')+(t-t')*(bd (dB d p)).X i+(if i<d.bl.length then 0 else p-q):=by
   show yQ ((bX d p).getD i dS) z t-yQ ((bX d q).getD i dS) z' t'=(z-z')+(t-t')*(((bX d p).getD i dS).x:Rat)+_;rcases Nat.lt_or_ge i d.bl.length with g|g
   .rw[oB (p:=q) (q:=p) g,if_pos g,yQ,yQ];grind
   .obtain⟨w,e1,e2⟩:=oC p q g hi;rw[e1,e2,if_neg J,yQ,yQ];show(ofQ p).val+(z+t*(w.x:Rat))-((ofQ q).val+(z'+t'*(w.x:Rat)))=z-z'+(t-t')*(w.x:Rat)+(p-q);rw[ofQ_val,ofQ_val];grind
  rw[ey]at key;exact key
 have hsum:=fC hterm;rw[Bu,EE,pV,pV]at hsum;have G2':am (fun i=>(bd (dB d q)).f z' t' i*(bd (dB d p)).X i) (d.bl.length+d.s.st.length)=(bd (dB d q)).w*(bd (dB d q)).A:=by
  rw[<-G2];exact cy fun i hi=>by rw[hX i hi]
 have hw:(bd (dB d q)).w=(bd (dB d p)).w:=O;have hA:(bd (dB d q)).A=(bd (dB d p)).A:=O;rw[show am (fun k=>(bd (dB d p)).f z t k) (d.bl.length+d.s.st.length)=(bd (dB d p)).w from F1,show am (fun k=>(bd (dB d q)).f z' t' k) (d.bl.length+d.s.st.length)=(bd (dB d p)).w from F2]at hsum;rw[G2',hw,hA]at hsum;have G1':am (fun i=>(bd (dB d p)).f z t i*(bd (dB d p)).X i) (d.bl.length+d.s.st.length)=(bd (dB d p)).w*(bd (dB d p)).A:=G1;rw[G1']at hsum;have hfin:0<=(p-q)*(am ((bd (dB d q)).f z' t') d.bl.length-am ((bd (dB d p)).f z t) d.bl.length):=by
  have:(p-q)*(am ((bd (dB d q)).f z' t') d.bl.length-am ((bd (dB d p)).f z t) d.bl.length)=((bd (dB d p)).w-(bd (dB d p)).w)*(z-z')+((bd (dB d p)).w*(bd (dB d p)).A-(bd (dB d p)).w*(bd (dB d p)).A)*(t-t')+(p-q)*((bd (dB d p)).w-(bd (dB d p)).w-(am (fun k=>(bd (dB d p)).f z t k) d.bl.length-am (fun k=>(bd (dB d q)).f z' t' k) d.bl.length)):=aW;rw[this];exact hsum
 generalize am ((bd (dB d q)).f z' t') d.bl.length=u2 at *
 generalize am ((bd (dB d p)).f z t) d.bl.length=u1 at *
 by_cases hu:u1<=u2
 .exact hu
 .exfalso;have h2:0<(p-q)*(u1-u2):=Rat.mul_pos hd aW;grind
end Go.Pv
