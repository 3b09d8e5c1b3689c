/- Texts of one hand, gathered: DlF, FsC, FsG, FsH, DlN. -/
import Derived.Test.YtmfjgnchaacgnaaGreatBa5
set_option maxRecDepth 20000
set_option linter.unusedSectionVars false
set_option linter.unusedSimpArgs false
set_option linter.unusedVariables false
set_option linter.unnecessarySimpa false
set_option maxHeartbeats 2000000
namespace Go.Pv
attribute [local irreducible] PWP POps PQuiet PSem aF aw ai ak
open Go.Proofs
set_option maxHeartbeats 4000000 in
theorem It (s:SHP)(H0:HYQ)(p:Rat){k:Nat}(ok:StbOk s p H0.mtc k):aO 147 [.agg (fB s),.agg (FG H0),.agg (eR (ofQ p))] (.agg (DE (IJ s p H0.mtc))):=by
 have h4:=tR s (jh s) O ok.ld ok.m ok.n;obtain⟨⟨t1,t2⟩,⟨t3,t4⟩,⟨t5,t6⟩,t7,t8⟩:=jc ok.ld;have hn:=ok.n;have hm:=ok.m;have hk:=ok.hk;have zM:Zb (sM (jh s)):=aJ J J;have zZ:Zb (sZ (jh s)):=aJ J J;have zF:Zb (1000*sF (jh s)):=aJ J J;have zF0:Zb (sF (jh s)):=aJ J J;have zT:Zb 1000:=aJ Y Y;have qM:HQ (mQ s) 4:=HQ.int;have qG:HQ (qZ s) 8:=@HQ.div _ _ 4 4 (HQ.int (z:=sZ (jh s))) (HQ.int (z:=sM (jh s)));have qF:HQ (FJ s) 4:=HQ.int;have qL:HQ (gK s p) (4+k+1):=@HQ.sub _ _ 4 k qM ⟨ok.hp⟩;have qme:HQ H0.mtc 400000:=⟨ok.hme⟩;have v1:=@HQ.mul _ _ _ _ qL qme;have v2:=@HQ.mul _ _ _ _ qM qG;have v3:=@HQ.sub _ _ _ _ v1 v2;have v4:HQ (AJ s p H0.mtc) _:=@HQ.sub _ _ _ _ v3 qF;have wM:=b_ (sM (jh s)) ⟨J,J⟩;rw[show((sM (jh s):Int):Rat)=mQ s from O]at wM;have wF:=b_ (sF (jh s)) ⟨J,J⟩;have wT:=b_ 1000 ⟨Y,Y⟩;have mF:=cy (ofQ ((1000:Int):Rat)) (ofQ ((sF (jh s):Int):Rat)) (hx:=Vq.ofQ (h:=HQ.int)) (hy:=Vq.ofQ (h:=HQ.int)) Y Y;rw[show((1000:Int):Rat)*((sF (jh s):Int):Rat)=FJ s by rw[FJ,gW]]at mF;have c1:=iP (ofQ (mQ s)) (ofQ p) (hx:=Vq.ofQ (h:=qM)) (hy:=Vq.ofQ (h:=⟨ok.hp⟩)) Y J;rw[show mQ s-p=gK s p from O]at c1;have m1:=cy (ofQ (gK s p)) (ofQ H0.mtc) (hx:=Vq.ofQ (h:=qL)) (hy:=Vq.ofQ (h:=qme)) J Y;have m2:=cy (ofQ (mQ s)) (ofQ (qZ s)) (hx:=Vq.ofQ (h:=qM)) (hy:=Vq.ofQ (h:=qG)) Y Y;have c4:=iP (ofQ (gK s p*H0.mtc)) (ofQ (mQ s*qZ s)) (hx:=Vq.ofQ (h:=v1)) (hy:=Vq.ofQ (h:=v2)) J Y;have c5:=iP (ofQ (gK s p*H0.mtc-mQ s*qZ s)) (ofQ (FJ s)) (hx:=Vq.ofQ (h:=v3)) (hy:=Vq.ofQ (h:=qF)) J Y;rw[show gK s p*H0.mtc-mQ s*qZ s-FJ s=AJ s p H0.mtc from O]at c5;have hMne:mQ s≠0:=by
  have:sM (jh s)≠0:=J;rw[mQ]
  exact_mod_cast this
 have hLne:gK s p≠0:=fun e=>by have:=ok.l0;rw[e]at this;exact absurd this Y
 have c6:=iO (ofQ (AJ s p H0.mtc)) (ofQ (mQ s)) (hx:=Vq.ofQ (h:=v4)) (hy:=Vq.ofQ (h:=qM)) J Y hMne;have c7:=iO (ofQ (AJ s p H0.mtc)) (ofQ (gK s p)) (hx:=Vq.ofQ (h:=v4)) (hy:=Vq.ofQ (h:=qL)) J J hLne;rw[yb,show(sZ (jh s):Rat)/(sM (jh s):Rat)=qZ s from O]at h4;rw[IJ];clear v1 v2 v3 v4 qM qG qF qL qme hMne hLne zM zZ zF zF0 zT ok;obtain⟨H1,H2,H3,H4,H5,H6,H7,H8,me⟩:=H0;rw[FG];simp only at *
 generalize ofQ (AJ s p me/mQ s)=G1,ofQ (AJ s p me/gK s p)=G2,ofQ (AJ s p me)=G3,ofQ (gK s p*me-mQ s*qZ s)=G4,ofQ (gK s p*me)=G5,ofQ (mQ s*qZ s)=G6,ofQ (gK s p)=G7,ofQ (mQ s)=G8,ofQ (qZ s)=G9,ofQ (FJ s)=G10,ofQ p=G11,ofQ me=G12,ofQ ((sX (jh s):Rat)/(sM (jh s):Rat))=G13,ofQ ((1000:Int):Rat)=G14,ofQ ((sF (jh s):Int):Rat)=G15 at *
 generalize sM (jh s)=im,sF (jh s)=jf,ofQ H1=J1,ofQ H2=J2,ofQ H3=J3,ofQ H4=J4,ofQ H5=J5,ofQ H6=J6,ofQ H7=J7,ofQ H8=J8 at *
 refine ax Proofs.Tryz.func147 ?_;refine G h4 ?_;refine G wM ?_;refine G c1 ?_;refine H ?_;refine be [(9,10),(10,10)] aK aK ?_;refine G m1 ?_;refine G m2 ?_;refine G c4 ?_;refine cO 7 [28,29,30,31,32,33,34] ?_;refine G wT ?_;refine G wF ?_;refine G mF ?_;refine G c5 ?_;refine cN 6 ?_;refine aT [(4,.ptr 4 1 0 0),(6,.ptr 6 1 0 0),(7,.ptr 7 1 0 0),(8,.ptr 8 1 0 0),(9,.ptr 9 1 0 0),(10,.ptr 10 1 0 0)] [(4,1,⟨217,36,[[.bool J1.n.neg,.sl (J1.n.l.map eU),.bool J1.d.neg,.sl (J1.d.l.map eU),.bool J2.n.neg,.sl (J2.n.l.map eU),.bool J2.d.neg,.sl (J2.d.l.map eU),.bool J3.n.neg,.sl (J3.n.l.map eU),.bool J3.d.neg,.sl (J3.d.l.map eU),.bool J4.n.neg,.sl (J4.n.l.map eU),.bool J4.d.neg,.sl (J4.d.l.map eU),.bool J5.n.neg,.sl (J5.n.l.map eU),.bool J5.d.neg,.sl (J5.d.l.map eU),.bool J6.n.neg,.sl (J6.n.l.map eU),.bool J6.d.neg,.sl (J6.d.l.map eU),.bool J7.n.neg,.sl (J7.n.l.map eU),.bool J7.d.neg,.sl (J7.d.l.map eU),.bool J8.n.neg,.sl (J8.n.l.map eU),.bool J8.d.neg,.sl (J8.d.l.map eU),.bool G12.n.neg,.sl (G12.n.l.map eU),.bool G12.d.neg,.sl (G12.d.l.map eU)]],2⟩),(6,1,⟨48,16,[[.bool false,.nil,.bool false,.nil,.bool false,.nil,.bool false,.nil,.bool false,.nil,.bool false,.nil,.bool false,.nil,.bool false,.nil]],2⟩),(7,1,⟨61,10,[[I im,.bool G13.n.neg,.sl (G13.n.l.map eU),.bool G13.d.neg,.sl (G13.d.l.map eU),.bool G9.n.neg,.sl (G9.n.l.map eU),.bool G9.d.neg,.sl (G9.d.l.map eU),I jf]],2⟩),(8,1,⟨42,4,[[.bool G8.n.neg,.sl (G8.n.l.map eU),.bool G8.d.neg,.sl (G8.d.l.map eU)]],2⟩),(9,1,⟨42,4,[[.bool G7.n.neg,.sl (G7.n.l.map eU),.bool G7.d.neg,.sl (G7.d.l.map eU)]],2⟩),(10,1,⟨42,4,[[.bool G3.n.neg,.sl (G3.n.l.map eU),.bool G3.d.neg,.sl (G3.d.l.map eU)]],2⟩)] ⟨O,O,O,O,O,O,O,O,O,O,O,O,trivial⟩ ?_;intro s6;refine mS 11 [35,36,37,38,39,40,41,42,43,44,45] aK ?_;refine G c6 ?_;refine G c7 ?_;exact bW
theorem tP (l:List SR)(hl:ma l)(hck:dV l=0)(h12:l.length<=1000)(a:AR){z t:Rat}{n m:Nat}[ha:Va a z t n m](hn:n+m<=90000):aO 145 [.sl (l.map eS),.agg (eA a)] (.sl ((FL l z t).map eR)):=by
 have hml:(l.map eS).length=l.length:=ao;have hrows:∀(k:Nat) x,l[k]? = some x->(FL (l.take (k+1)) z t).map eR=(FL (l.take k) z t).map eR++[eR (ofQ (fQ x z t))]:=fun k x hx=>by rw[FL,FL,gC hx,bc,bc];rfl
 have him:=fun x hx=>Li x (hl.1 x hx) a (z:=z) (t:=t) J J;have hfo:∀x,x∈l->aO 214 [.agg (eC x.k),.agg (eR (ofQ (yQ x z t)))] (.agg (eR (ofQ (fQ x z t)))):=fun x hx=>by
  have v1:Vq (ofQ (yQ x z t)) (yQ x z t) (13+(n+1+(m+1+4)+1)+1):=Vq.ofQ (h:=DB (hl.1 x hx) ha.z.hq ha.t.hq);exact EF x.k (hl.1 x hx).k (eZ hck x hx) (ofQ (yQ x z t)) (hy:=v1) J
 obtain⟨az,at'⟩:=a;refine ax Proofs.Tryz.func145 ?_;refine cN 1 ?_
 ((repeat (first|refine bH ?_ | refine dT ?_ | refine dF ?_ | refine dy ?_));refine bZ ?_)
 (first|refine ay (kG 42 4 1 O O ?_)|refine ay (kF 42 4 1 O O ?_))
 refine H ?_;refine ah (fun k=>k<=l.length) (fun k=>[(0,.sl (l.map eS)),(3,.ptr 3 1 0 0),(5,.als 5 (k+1) 0 ((FL (l.take k) z t).map eR).length),(6,I (k:Nat))]) (fun k=>[(3,1,⟨45,8,[eA ⟨az,at'⟩],2⟩),(5,k+1,⟨42,4,(FL (l.take k) z t).map eR,1⟩)]) (fun k=>l.length-k) 0 (aP _) ⟨O,O,O,O,O,O,trivial⟩ ?_;intro k s hk;refine D ?_ ?_<;>intro h
 .have hlt:k<l.length:=by have:=aB h;omega
  clear h;obtain⟨x,hx⟩:=aC hlt;have e:=him x (bm hx);have e2:=hfo x (bm hx);have hw:=fg k;have hil:(FL (l.take k) z t).length<=1000:=by rw[FL,aR,bw];omega
  have hr:=hrows k x hx;generalize ofQ (yQ x z t)=Y0,ofQ (fQ x z t)=F,FL (l.take k) z t=A at *
  obtain⟨xx,xc,xk⟩:=x;simp only at *
  refine H ?_;refine bj [26,5] [13,14,15] aK ?_;refine aQ hx ?_;refine aQ hx ?_;refine G e ?_;refine G e2 ?_;refine H ?_;refine lr O O O (aY 1 O O O O O O O O O O O aH O ⟨gZ O,?_⟩);refine H ?_;refine lr O O O (bJ 1 O O O O O O O O O O O aH (by intro row hr;first|(simp at hr;subst hr;rfl)|(simp at hr;obtain⟨_,_,rfl⟩:=hr;rfl)|simp at hr) O O aV aV ⟨gZ O,?_⟩);refine H ?_;refine⟨k+1,hlt,J,O,O,?_,congrArg I hw,O,?_,trivial⟩
  .rw[hr];rfl
  .rw[hr];rfl
 .have hge:k=l.length:=by have:=aE h;omega
  subst hge;clear h;rw[bb];refine H ?_;exact lB O O O ⟨O,O,O⟩ O
theorem Lr (l:List SR)(hl:ma l)(h12:l.length<=12)(Fl:List RR)(f:Nat->Rat){N:Nat}(hf:∀i,i<l.length->Fl[i]? = some (ofQ (f i)))(hH:∀i,i<l.length->HQ (f i) N)(hN:N<=800500) :
  aO 219 [.sl (l.map eS),.sl (Fl.map eR)] (.agg (eR (ofQ (aq f l.length))++eR (ofQ (aq (fun i=>f i*xI l i) l.length)))):=by
 have w0:=lN;have hml:(l.map eS).length=l.length:=ao;have hGH:∀i,i<l.length->HQ (f i*xI l i) (N+4):=fun i hi=>by
  have hx:=(hl.1 _ (bR hi)).x;have hx:Zb (l.getD i dS).x:=aJ hx.1 hx.2;exact @HQ.mul _ _ _ 4 (hH i hi) HQ.int
 have hB:∀i,i<=l.length->i*(N+4+1)+4<=12000000:=fun i hi=>by
  have:=et (show i<=12 by omega) (show N+4+1<=800505 by omega);omega
 generalize hg:(fun i=>f i*xI l i)=g at *
 refine ax Proofs.Tryz.func219 ?_;refine G w0 ?_;refine G w0 ?_;refine H ?_;refine ah (fun i:Nat=>i<=l.length) (fun i=>[(0,.sl (l.map eS)),(1,.sl (Fl.map eR)),(4,.ptr 4 1 0 0),(5,.ptr 5 1 0 0),(6,I (i:Nat))])
  (fun i=>[(4,1,⟨222,8,[zN++zN],2⟩),(5,1,⟨222,8,[eR (ofQ (aq f i))++eR (ofQ (aq g i))],2⟩)]) (fun i=>l.length-i) 0 (aP _) ⟨O,O,O,O,O,O,O,trivial⟩ ?_
 intro i s hi;refine D ?_ ?_<;>intro h
 .have hlt:i<l.length:=by have:=aB h;omega
  clear h;have hx:=bF (d:=dS) hlt;have hFi:=hf i hlt;have hxx:=(hl.1 _ (bR hlt)).x;have hzb:Zb (l.getD i dS).x:=aJ hxx.1 hxx.2;have hw:=fg i;have hBi:=hB i hi;have hgi:f i*((l.getD i dS).x:Rat)=g i:=by rw[<-hg];rfl
  have v0:Vq (ofQ (f i)) (f i) N:=Vq.ofQ (h:=hH i hlt);have vg:Vq (ofQ (g i)) (g i) (N+4):=Vq.ofQ (h:=by rw[<-hg];exact hGH i hlt);have v1:Vq (ofQ (aq f i)) (aq f i) (i*(N+1)+4):=Vq.ofQ (h:=b9 i fun k hk=>hH k J);have v2:Vq (ofQ (aq g i)) (aq g i) (i*(N+4+1)+4):=Vq.ofQ (h:=b9 i fun k hk=>by rw[<-hg];exact hGH k J);have h1:=wR (ofQ (aq f i)) (ofQ (f i)) (hx:=v1) (hy:=v0) (by have:=et (ke i) (show N+1<=N+4+1 by omega);omega) J;have h2:=b_ (l.getD i dS).x hxx;have h3:=Bo (ofQ (f i)) (ofQ ((l.getD i dS).x:Rat)) (hx:=v0) J Y;rw[hgi]at h3;have h4:=wR (ofQ (aq g i)) (ofQ (g i)) (hx:=v2) (hy:=vg) J J;rw[show aq f i+f i=aq f (i+1) from O]at h1;rw[show aq g i+g i=aq g (i+1) from O]at h4;generalize hF1:ofQ (aq f (i+1))=F1 at *
  generalize hG1:ofQ (aq g (i+1))=G1 at *
  generalize ofQ (aq f i)=F0,ofQ (aq g i)=G0,ofQ (f i)=f0,ofQ (g i)=g0 at *
  refine cO 8 [16,17,18,19,20,21,22,23] ?_;refine aQ hFi ?_;refine G h1 ?_;refine cO 15 [24,25,26,27,28,29,30,31,32,33,34,35,36,37,38] ?_;refine aQ hFi ?_;refine aQ hx ?_;refine G h2 ?_;refine G h3 ?_;refine G h4 ?_;refine H ?_;refine⟨i+1,hlt,J,O,O,O,O,congrArg I hw,O,?_,trivial⟩;show(_:Nat × Option Cont)=(1,some (Cont.mk 222 8 [eR (ofQ (aq f (i+1)))++eR (ofQ (aq g (i+1)))] 2));rw[hF1,hG1];rfl
 .have hie:i=l.length:=by have:=aE h;omega
  clear h;subst hie;exact bW
theorem Q9 {l:List SR}{z t:Rat}{i:Nat}(hi:i<l.length):(FL l z t)[i]? = some (ofQ (fI l z t i)):=by
 rw[FL,bD,bF (d:=dS) hi];rfl
theorem Rr {l:List SR}(hl:ma l)(hf:xT l){z t:Rat}{n m:Nat}(hz:HQ z n)(ht:HQ t m){i:Nat}(hi:i<l.length):HQ (fI l z t i) (8*(n+m+60)+4):=FH (hl.1 _ (bR hi)) (hf.2 _ (bR hi)) hz ht
theorem EO (l:List SR)(hl:ma l)(hc:dV l=0)(hf:xT l)(a:AR){z t:Rat}{n m:Nat}[ha:Va a z t n m](hn:n+m<=90000) :
  aO 148 [.sl (l.map eS),.agg (eA a)] (.agg (eR (ofQ (aq (fI l z t) l.length))++eR (ofQ (aq (gI l z t) l.length)))):=by
 have h12:=hf.1;have h1:=tP l hl hc J a (z:=z) (t:=t) hn;have h2:=Lr l hl hf.1 (FL l z t) (fI l z t) (fun i hi=>Q9 hi) (fun i hi=>Rr hl hf ha.z.hq ha.t.hq hi) J;rw[show(fun i=>fI l z t i*xI l i)=gI l z t from O]at h2;generalize ofQ (aq (fI l z t) l.length)=X1,ofQ (aq (gI l z t) l.length)=X2,FL l z t=L at *
 obtain⟨az,at'⟩:=a;refine ax Proofs.Tryz.func148 ?_;refine G h1 ?_;refine G h2 ?_;exact bW
theorem K9 (b:BR)(hb:b.Ok)(a:AR){z t:Rat}{n m:Nat}[ha:Va a z t n m](hn:n+m<=60000):aO 80 [.agg (eB b),.agg (eA a)] (.bool (decide ((bd b).Bal z t))):=by
 have h1:=EO b.l hb.lim.l hb.chkL hb.few a (z:=z) (t:=t) J;have h2:=b_ b.w hb.lim.w;have hw:Zb b.w:=aJ hb.lim.w.1 hb.lim.w.2;have v0:Vq (ofQ (aq (fI b.l z t) b.l.length)) (aq (fI b.l z t) b.l.length) (96*(n+1+(m+1)+60)+200):=Vq.ofQ (h:=Mv hb.lim.l hb.few ha.z.hq ha.t.hq);have h5:=eX (ofQ (aq (fI b.l z t) b.l.length)) (ofQ (b.w:Rat)) (hx:=v0) J Y;have h3:=Bo (ofQ (b.w:Rat)) b.a (hy:=hb.lim.a.v) Y Y;have v1:Vq (ofQ (aq (gI b.l z t) b.l.length)) (aq (gI b.l z t) b.l.length) (96*(n+1+(m+1)+60)+200):=Vq.ofQ (h:=Mx hb.lim.l hb.few ha.z.hq ha.t.hq);have v2:Vq (ofQ ((b.w:Rat)*b.a.val)) ((b.w:Rat)*b.a.val) 17:=Vq.ofQ (h:=Dw hb);have h4:=eX (ofQ (aq (gI b.l z t) b.l.length)) (ofQ ((b.w:Rat)*b.a.val)) (hx:=v1) (hy:=v2) J Y;have key:decide ((bd b).Bal z t)=(decide (sgn (aq (fI b.l z t) b.l.length-(b.w:Rat))=0)&&decide (sgn (aq (gI b.l z t) b.l.length-(b.w:Rat)*b.a.val)=0)):=by
  rw[<-Bool.decide_and,decide_eq_decide,gy,gy];show aq (fI b.l z t) b.l.length=(b.w:Rat)/\aq (gI b.l z t) b.l.length=(b.w:Rat)*b.a.val↔_;constructor
  .rintro⟨e1,e2⟩;rw[e1,e2];constructor<;>grind
  .rintro⟨e1,e2⟩;constructor<;>grind
 rw[key];generalize sgn (aq (fI b.l z t) b.l.length-(b.w:Rat))=g1,sgn (aq (gI b.l z t) b.l.length-(b.w:Rat)*b.a.val)=g2,ofQ (aq (fI b.l z t) b.l.length)=X1,ofQ (aq (gI b.l z t) b.l.length)=X2,ofQ ((b.w:Rat)*b.a.val)=X3,ofQ (b.w:Rat)=X4 at *
 obtain⟨w,ba,l⟩:=b;obtain⟨az,at'⟩:=a;simp only at *
 refine ax Proofs.Tryz.func80 ?_;refine G h1 ?_;refine G h2 ?_;refine cO 16 [14,15,16,17,18,19,20,21,22,23,24,25,26,27,28,4] ?_;refine aj h5 ?_;refine eW ?_ ?_<;>intro h
 .rw[h];clear h;refine G h3 ?_;refine aj h4 ?_;exact fC
 .rw[h];clear h;exact fC
theorem IY:RR.zero.le 1000000000:=⟨aP _,aP _⟩
theorem NY {s:SHP}{p me:Rat}{k:Nat}(ok:StbOk s p me k):(IJ s p me).Le:=by
 obtain⟨⟨t1,t2⟩,⟨t3,t4⟩,⟨t5,t6⟩,t7,t8⟩:=jc ok.ld;have hn:=ok.n;have hm:=ok.m;have hk:=ok.hk;have zM:Zb (sM (jh s)):=aJ J J;have zZ:Zb (sZ (jh s)):=aJ J J;have zF:Zb (1000*sF (jh s)):=aJ J J;have qM:HQ (mQ s) 4:=HQ.int;have qG:HQ (qZ s) 8:=@HQ.div _ _ 4 4 (HQ.int (z:=sZ (jh s))) (HQ.int (z:=sM (jh s)));have qF:HQ (FJ s) 4:=HQ.int;have qL:HQ (gK s p) (4+k+1):=@HQ.sub _ _ 4 k qM ⟨ok.hp⟩;have qme:HQ me 400000:=⟨ok.hme⟩;have v4:HQ (AJ s p me) _:=@HQ.sub _ _ _ _ (@HQ.sub _ _ _ _ (@HQ.mul _ _ _ _ qL qme) (@HQ.mul _ _ _ _ qM qG)) qF;exact⟨lC qme.ok Y,lC qG.ok Y,lC (@HQ.div _ _ _ _ v4 qM).ok J,lC (@HQ.div _ _ _ _ v4 qL).ok J⟩
theorem E0 {d:DKR}{p z t:Rat}(h:Slim d p)(hs:Stood d p z t)(hb:bB ((vQ d p z t).drop d.bl.length)≠0):ap (bE (z+p) t) d.s.st≠0/\StbOk d.s (bB ((vQ d p z t).take d.bl.length)) (pS d.s.st (gH d) (z+p) t).mtc 600000:=by
 obtain⟨hk,hd,hf⟩:=h.bd;have ok:=mV (kx hf);have hz:=hs.hz;have ht:=hs.ht;have hp:HQ p 4:=⟨h.p⟩;have hzp:HQ (z+p) 24005:=@HQ.add _ _ 24000 4 hz hp;have me:=Gb hk.st h.L h.st (gH d) hzp.ok ht.ok;have hms:=wH hs;have hnn:=Jq h hs;refine⟨fun e=>hb (by
  rw[Jr hk.st];show ap (bE (z+p) t) d.s.st*_=0
  rw[e];grind),ok.ld,ok.m,by have:=ok.n;show(d.s.light::d.s.it).length<=61;simp;omega,(Dt h hs).1,(me.mono Y).ok,Y,hnn.1,?_⟩
 rw[gK,mQ,jh];grind
theorem LW {d:DKR}{p z t:Rat}(h:Slim d p)(hs:Stood d p z t):(I7 d p z t).Le:=by
 have hl:=xK d p z t;have h5:=h.bl;have h6:=h.st;refine⟨lC h.p Y,lC hs.hz.ok Y,lC hs.ht.ok Y,?_,fun r hr=>?_,lC (Dt h hs).1 Y,lC (Dt h hs).2 Y,?_⟩
 .show(((vQ d p z t).take d.bl.length).map ofQ).length<=_;rw[aR,bw];omega
 .obtain⟨q,hq,rfl⟩:=bX.1 (show r∈((vQ d p z t).take d.bl.length).map ofQ from hr);exact lC (zk h hs q (d9 hq)) Y
 .show(tQ d p z t).Le;rw[tQ];split
  .exact⟨IY,IY,IY,IY⟩
  .rename_i hb;exact NY (E0 h hs hb).2
theorem wZ {d:DKR}{lv:RR}(h:Slim d lv.val)(hlv:lv.sz 1000000):aO 77 [.agg (cn d),.agg (eR lv)] (.agg (eB (dB d lv.val))):=by
 obtain⟨hk,hd,hf⟩:=h.bd;have ok:=mV (kx hf);have ml:=tR d.s _ O ok.ld ok.m (by have:=ok.n;simp;omega);have hs:=nS d hk hd lv hlv;have ew:eB (dB d lv.val)=I (sM (d.s.light::d.s.it))::(eR (ofQ (qX d.s))++[.sl ((dU d lv.val).map eS)]):=O;rw[ew];rw[yb,S9,show(sX (d.s.light::d.s.it):Rat)/(sM (d.s.light::d.s.it):Rat)=qX d.s from O]at ml;generalize ofQ ((sZ (d.s.light::d.s.it):Rat)/(sM (d.s.light::d.s.it):Rat))=QZ,ofQ (qX d.s)=QX at *
 generalize sM (d.s.light::d.s.it)=m,sF (d.s.light::d.s.it)=f,(dU d lv.val).map eS=W at *
 clear h hk hd hf ok ew;obtain⟨s,den,bl,zn,gm,oh⟩:=d;simp only at *
 refine ax Proofs.Tryz.func77 ?_;refine G ml ?_;refine H ?_;refine cd [] [4] 8 [8] aK aK ?_;refine G hs ?_;exact bW
theorem Iu {d:DKR}{lv:RR}{z t:Rat}(hl:d.Len)(h:Slim d lv.val)(hlv:lv.sz 4)(hs:Stood d lv.val z t):aO 79 [.agg (cn d),.agg (eR lv),.agg (eR (ofQ z)++eR (ofQ t))] (.agg (fk (I7 d lv.val z t))):=by
 obtain⟨hk,hd,hf⟩:=h.bd;have hb:=hs.okB h;have hz:=hs.hz;have ht:=hs.ht;have hll:=xK d lv.val z t;have h5:=h.bl;have h6:=h.st;have hdn:=oy hd;have h38:=nS d hk hd lv (tU hlv Y);have h145:=tP (dU d lv.val) hb.lim.l hb.chkL (by rw[og];omega) ⟨ofQ z,ofQ t⟩ (ha:=⟨Vq.ofQ (h:=hz),Vq.ofQ (h:=ht)⟩) Y;rw[Oz]at h145;refine EM d lv (hlv:=hlv.v) Y (ofQ z) (ofQ t) (vQ d lv.val z t) h38 h145 (fun q hq=>e_ (zk h hs q hq) Y) J J (Jq h hs).2 (tQ d lv.val z t) (hz:=Vq.ofQ (h:=hz)) Y (fun hne=>?_) fun e=>by rw[tQ,if_pos e]
 obtain⟨hv0,sok⟩:=E0 h hs hne;have hp:HQ lv.val 4:=⟨h.p⟩;have hzp:HQ (z+lv.val) 24005:=@HQ.add _ _ 24000 4 hz hp;have va:Va ⟨ofQ (z+lv.val),ofQ t⟩ (z+lv.val) t 24005 20000:=⟨Vq.ofQ (h:=hzp),Vq.ofQ (h:=ht)⟩;have r1:=EG d.s hk.st h.st h.L ⟨ofQ (z+lv.val),ofQ t⟩ (ha:=va) Y (gH d) J J hv0;rw[hdn]at r1;refine⟨_,r1,?_⟩;rw[tQ,if_neg hne];exact It d.s _ _ sok
theorem qx {d:DKR}{lv:RR}{z t:Rat}(hl:d.Len)(h:Slim d lv.val)(hlv:lv.sz 4)(hs:Stood d lv.val z t):aO 23 [.agg (cn d),.agg (eR lv)] (.tup [.agg (fk (I7 d lv.val z t)),I 0,.bool true]):=by
 have h1:=wZ h (tU hlv Y);have h2:=mW (dB d lv.val) (jD h).1 fun _=>(jD h).2;rw[hs.s,SQ.pv]at h2;have h3:=Iu hl h hlv hs;have hz:=hs.hz;have ht:=hs.ht;have h4:=K9 (dB d lv.val) (hs.okB h) ⟨ofQ z,ofQ t⟩ (ha:=⟨Vq.ofQ (h:=hz),Vq.ofQ (h:=ht)⟩) Y;rw[decide_eq_true hs.bal]at h4;generalize I7 d lv.val z t=x,FL (dU d lv.val) z t=F,dB d lv.val=b,ofQ z=Z,ofQ t=T at *
 clear h hs hz ht hlv;obtain⟨w,ba,l⟩:=b;obtain⟨s,den,bl,zn,gm,oh⟩:=d;refine ax Proofs.Tryz.func23 ?_;refine G h1 ?_;refine G h2 ?_;refine H ?_;refine cd [] [4] 9 [9] aK aK ?_;refine G h3 ?_;refine aj h4 ?_;exact bW
theorem qw {d:DKR}{lv:RR}(h:Slim d lv.val)(hlv:lv.sz 4)(he:(eQ (dB d lv.val)).e≠0):aO 23 [.agg (cn d),.agg (eR lv)] (.tup [.agg (fk dZ),I (eQ (dB d lv.val)).e,.bool true]):=by
 have h1:=wZ h (tU hlv Y);have h2:=mW (dB d lv.val) (jD h).1 fun _=>(jD h).2;refine Ret.weak (r' := .tup [.agg Mt,I (eQ (dB d lv.val)).e,.bool true]) ?_ (WeakL.refl _) (WeakL.tup (.cons od.agg (WeakL.refl _)));generalize eQ (dB d lv.val)=Q at *
 generalize dB d lv.val=b at *
 clear h hlv;obtain⟨⟨az,at'⟩,F,⟨rz,rt⟩,e⟩:=Q;simp only[SQ.pv]at *
 obtain⟨w,ba,l⟩:=b;obtain⟨s,den,bl,zn,gm,oh⟩:=d;refine ax Proofs.Tryz.func23 ?_;refine G h1 ?_;refine G h2 ?_;refine H ?_;rw[decide_eq_false he];exact bW
end Go.Pv
