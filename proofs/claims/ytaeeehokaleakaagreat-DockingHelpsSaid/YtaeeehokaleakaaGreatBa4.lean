/- Texts of one hand, gathered: FcW, FcX, FcY, FcZ, FdA, FdB, FdC, FdD, FdE, FdF, FdG, FdH, FdI, FdK, FdL, FmK, FdN, FmL, FdT, FdO, FdP, FdQ, FdR, FmN, FdSn, FdUn, FdM, FsA, FsB, FsD, PvXw, FsE, FwA, FwB, FcLd, FwC, FwD, Shelg, FwE, FwF, FwG, PvFz, FuE, FwH, FsF, FwI, FuF, FwJ, DkA, DkC, DkE, DkF, DkG, DkH, DkD. -/
import Derived.Test.YtaeeehokaleakaaGreatBa3
import Derived.Shelf.Spec.SlicesGrow
import Derived.Test.YtaeeehokaleakaaGreatProg
set_option maxRecDepth 20000
set_option linter.unusedSectionVars false
set_option linter.unusedSimpArgs false
set_option linter.unusedVariables false
set_option linter.unnecessarySimpa false
set_option maxHeartbeats 2000000
namespace Go.Pv
attribute [local irreducible] PWP POps PQuiet PSem aE aw aj ak
open Go.Proofs
def prB (n:BN):Rat × Rat:=(n.at'.val,n.up.val)
def kP (b:BR)(t:Rat):Rat:=IZ (b.w:Rat) ((Je b.l t).map prB) 0 0 0
theorem MH {l:List SR}{t:Rat}{n:BN}(h:n∈Je l t):∃s∈l,∃k,k<s.k.S.length/\n=bn s t k:=Jf ((iG cG _).mem_iff.1 h)
theorem Cg {q:Rat}:ofQ (ofQ q).val=ofQ q:=by rw[ofQ_val]
theorem CX (b:BR)(hb:b.Ok){t:Rat}{m:Nat}(h40:(o8 b.l t).length<=54)(hS:SortC (o8 b.l t))(tr:RR)[ht:Vq tr t m](hm:m<=60000):aU 190 [.agg (eB b),.agg (eR tr)] (.agg (eA ⟨ofQ (kP b t),ofQ t⟩)):=by
 have hw0:=cO 0 ⟨Y,Y⟩;rw[show(((0:Int):Rat))=0 from O]at hw0;have hww:=cO b.w hb.lim.w;have zw:Zb b.w:=aI hb.lim.w.1 hb.lim.w.2;have vw:Vq (ofQ (b.w:Rat)) (b.w:Rat) 4:=Vq.ofQ (h:=HQ.int);have hbe:=Bn b.l hb.lim.l hb.chkL hb.few.2 (by have:=hb.few.1;omega) tr (m:=m) J h40 hS;have hlow:=Nb tr J;have hol:(Je b.l t).length=(o8 b.l t).length:=fj _ _;have hol40:(Je b.l t).length<=54:=J;have hat:∀n∈Je b.l t,n.at'=ofQ n.at'.val/\n.up=ofQ n.up.val/\HQ n.at'.val (m+30)/\HQ n.up.val 27:=fun n hn=>by
  obtain⟨s,hs,k,hk,rfl⟩:=MH hn;refine⟨Cg.symm,Cg.symm,?_,?_⟩
  .show HQ (ofQ (s.k.s k-qy s t)).val (m+30);rw[ofQ_val];exact(Fh (hb.lim.l.1 s hs) ht.hq k).mono J
  .show HQ (ofQ (s.k.m k-cQ s.k.m k)).val 27;rw[ofQ_val];exact wg (hb.lim.l.1 s hs).k k
 generalize hZ:kP b t=Z;rw[kP]at hZ;generalize Je b.l t=B at *
 have hml:(B.map cM).length=B.length:=ap;obtain⟨w,ba,l⟩:=b;simp only at *
 generalize (w:Rat)=W at *
 refine aD Proofs.Tryz.func190 ?_;refine G hw0 ?_;refine G hw0 ?_;refine G hww ?_;refine G hw0 ?_;refine G hbe ?_;refine H ?_;refine ai (fun q:Nat × Rat × Rat × Rat=>q.1<=B.length/\IZ W ((B.drop q.1).map prB) q.2.1 q.2.2.1 q.2.2.2=Z/\HQ q.2.1 (q.1*(2*m+1700)+4)/\HQ q.2.2.1 (q.1*28+4)/\HQ q.2.2.2 (m+30)) (fun q=>[(3,.ptr 3 1 0 0),(4,.ptr 4 1 0 0),(5,.ptr 5 1 0 0),(6,.ptr 6 1 0 0),(7,.ptr 7 1 0 0),(8,.ptr 8 1 0 0),(21,.sl (B.map cM)),(22,I B.length),(23,I (q.1:Nat))])
  (fun q=>[(3,1,⟨41,4,[eR tr],2⟩),(4,1,⟨43,8,[zN++zN],2⟩),(5,1,⟨41,4,[eR (ofQ q.2.1)],2⟩),(6,1,⟨41,4,[eR (ofQ q.2.2.1)],2⟩),(7,1,⟨41,4,[eR (ofQ W)],2⟩),(8,1,⟨41,4,[eR (ofQ q.2.2.2)],2⟩)]) (fun q=>B.length-q.1) (0,0,0,0)
  ⟨aP _,by rw[fO];exact hZ,HQ.zero.mono J,HQ.zero.mono J,HQ.zero.mono J⟩ ⟨O,O,O,O,O,O,O,by rw[<-hml];rfl,ah⟩ ?_
 rintro⟨i,c,k,a⟩ s ⟨hi,hS,hc,hk,ha⟩;simp only at hi hS hc hk ha;dsimp only;have hcb:i*(2*m+1700)+4<=54*(2*m+1700)+4:=by have:=eO (show i<=54 by omega) (j_ (2*m+1700));omega
 have vk:Vq (ofQ k) k (i*28+4):=Vq.ofQ (h:=hk);have vc:Vq (ofQ c) c (i*(2*m+1700)+4):=Vq.ofQ (h:=hc);have va:Vq (ofQ a) a (m+30):=Vq.ofQ (h:=ha);have sgk:=wN (ofQ k) (hx:=vk) J;have hsk:=kO k;have t1:=nk (ofQ W) (ofQ c) (hx:=vw) (hy:=vc) Y J;have u1:Vq (ofQ (W-c)) (W-c) (4+(i*(2*m+1700)+4)+1):=Vq.ofQ (h:=@HQ.sub _ _ 4 _ (iH vw) hc);generalize hgk:sgn k=gk at *
 refine D ?_ ?_<;>intro h
 .have hlt:i<B.length:=cw h;clear h;obtain⟨x,hx⟩:=ay hlt;obtain⟨x1,x2,x3,x4⟩:=hat x (bC hx);have hdr:(B.drop i).map prB=prB x::(B.drop (i+1)).map prB:=by
   obtain⟨hl1,h2⟩:=cb hx;rw[jm hl1,h2];rfl
  rw[hdr,IZ]at hS;have hw:=dN i;obtain⟨xa,xu⟩:=x;obtain⟨p,rfl⟩:∃p,xa=ofQ p:=⟨_,x1⟩;obtain⟨u,rfl⟩:∃u,xu=ofQ u:=⟨_,x2⟩;clear x1 x2;simp only[prB,ofQ_val]at hS x3 x4;have vp:Vq (ofQ p) p (m+30):=Vq.ofQ (h:=x3);have vu:Vq (ofQ u) u 27:=Vq.ofQ (h:=x4);have e1:=nk (ofQ p) (ofQ a) (hx:=vp) (hy:=va) J J;have w1:Vq (ofQ (p-a)) (p-a) (m+30+(m+30)+1):=Vq.ofQ (h:=@HQ.sub _ _ _ _ x3 ha);have e2:=iE (ofQ k) (ofQ (p-a)) (hx:=vk) (hy:=w1) J J;have w2:Vq (ofQ (k*(p-a))) (k*(p-a)) (i*28+4+(m+30+(m+30)+1)):=Vq.ofQ (h:=@HQ.mul _ _ _ _ hk (iH w1));have e3:=eJ (ofQ c) (ofQ (k*(p-a))) (hx:=vc) (hy:=w2) J J;have h3:HQ (c+k*(p-a)) ((i+1)*(2*m+1700)+4):=(@HQ.add _ _ _ _ hc (iH w2)).mono (by rw[cg];omega);have w3:Vq (ofQ (c+k*(p-a))) (c+k*(p-a)) ((i+1)*(2*m+1700)+4):=Vq.ofQ (h:=h3);have hcb1:(i+1)*(2*m+1700)+4<=55*(2*m+1700)+4:=by have:=eO (show i+1<=55 by omega) (j_ (2*m+1700));omega
  have e4:=nf (ofQ (c+k*(p-a))) (ofQ W) (hx:=w3) (hy:=vw) J Y;have hs4:=Lk (c+k*(p-a)-W);have e5:=eJ (ofQ k) (ofQ u) (hx:=vk) (hy:=vu) J Y;have h5:HQ (k+u) ((i+1)*28+4):=(@HQ.add _ _ _ _ hk x4).mono J;have h6:HQ c ((i+1)*(2*m+1700)+4):=hc.mono (by rw[cg];omega);by_cases hkp:0<k
  .have hkg:0<gk:=by rw[<-hgk];exact(kO k).2 hkp
   rw[if_pos hkp]at hS;by_cases hr:W<=c+k*(p-a)
   .rw[if_pos hr]at hS;have hr4:0<=sgn (c+k*(p-a)-W):=hs4.2 bP;have t2:=Cl (ofQ (W-c)) (ofQ k) (hx:=u1) (hy:=vk) J J bP;have u2:Vq (ofQ ((W-c)/k)) ((W-c)/k) (4+(i*(2*m+1700)+4)+1+(i*28+4)):=Vq.ofQ (h:=@HQ.div _ _ _ _ (iH u1) hk);have t3:=eJ (ofQ a) (ofQ ((W-c)/k)) (hx:=va) (hy:=u2) J J;rw[hS]at t3;generalize sgn (c+k*(p-a)-W)=g4,ofQ (c+k*(p-a))=Y1 at *
    refine aN hx ?_;refine ax sgk ?_;refine D ?_ ?_<;>intro h
    .clear h;refine cV 8 ?_;refine ao (e_ 11) ?_;refine a_ [(8,11),(9,11)] aH aH ?_;refine G e1 ?_;refine G e2 ?_;refine G e3 ?_;refine ax e4 ?_;refine D ?_ ?_<;>intro h
     .clear h;refine ax sgk ?_;refine D ?_ ?_<;>intro h
      .clear h;refine cX 7 [53,54,55,56,57,58,59] ?_;refine G t1 ?_;refine G t2 ?_;refine G t3 ?_;refine cX 4 [60,61,62,63] ?_;refine G hlow ?_;exact cA
      .exact absurd hkg (bS h)
     .exact absurd hr4 (bS h)
    .exact absurd hkg (bS h)
   .rw[if_neg hr]at hS;have hr4:¬0<=sgn (c+k*(p-a)-W):=fun h=>by have:=hs4.1 h;grind
    generalize sgn (c+k*(p-a)-W)=g4 at *
    generalize hY1:ofQ (c+k*(p-a))=Y1 at *
    generalize hY2:ofQ (k+u)=Y2 at *
    refine aN hx ?_;refine ax sgk ?_;refine D ?_ ?_<;>intro h
    .clear h;refine cV 8 ?_;refine ao (e_ 11) ?_;refine a_ [(8,11),(9,11)] aH aH ?_;refine G e1 ?_;refine G e2 ?_;refine G e3 ?_;refine ax e4 ?_;refine D ?_ ?_<;>intro h
     .exact absurd (bk h) hr4
     .clear h;refine G e5 ?_;refine H ?_;refine⟨(i+1,c+k*(p-a),k+u,p),⟨hlt,hS,h3,h5,x3⟩,by simp only;omega,O,O,O,O,O,O,O,O,congrArg I hw,O,O,by rw[<-hY1];rfl,by rw[<-hY2];rfl,ah⟩
    .exact absurd hkg (bS h)
  .have hkg:¬0<gk:=fun h=>hkp (by rw[<-hgk]at h;exact(kO k).1 h);rw[if_neg hkp]at hS;generalize hY2:ofQ (k+u)=Y2 at *
   refine aN hx ?_;refine ax sgk ?_;refine D ?_ ?_<;>intro h
   .exact absurd (bk h) hkg
   .clear h;refine G e5 ?_;refine H ?_;refine⟨(i+1,c,k+u,p),⟨hlt,hS,h6,h5,x3⟩,by simp only;omega,O,O,O,O,O,O,O,O,congrArg I hw,O,O,O,by rw[<-hY2];rfl,ah⟩
 .have hie:i=B.length:=co h;clear h;rw[hie,gX,dp,IZ]at hS;by_cases hkp:0<k
  .have hkg:0<gk:=by rw[<-hgk];exact(kO k).2 hkp
   rw[if_pos hkp]at hS;have t2:=Cl (ofQ (W-c)) (ofQ k) (hx:=u1) (hy:=vk) J J bP;have u2:Vq (ofQ ((W-c)/k)) ((W-c)/k) (4+(i*(2*m+1700)+4)+1+(i*28+4)):=Vq.ofQ (h:=@HQ.div _ _ _ _ (iH u1) hk);have t3:=eJ (ofQ a) (ofQ ((W-c)/k)) (hx:=va) (hy:=u2) J J;rw[hS]at t3;refine ax sgk ?_;refine D ?_ ?_<;>intro h
   .clear h;refine cX 7 [53,54,55,56,57,58,59] ?_;refine G t1 ?_;refine G t2 ?_;refine G t3 ?_;refine cX 4 [60,61,62,63] ?_;refine G hlow ?_;exact cA
   .exact absurd hkg (bS h)
  .have hkg:¬0<gk:=fun h=>hkp (by rw[<-hgk]at h;exact(kO k).1 h);rw[if_neg hkp]at hS;refine ax sgk ?_;refine D ?_ ?_<;>intro h
   .exact absurd (bk h) hkg
   .clear h;refine cX 4 [60,61,62,63] ?_;refine G hlow ?_;refine H ?_;exact DU O ah O ah (by rw[<-hS];rfl)
theorem mV {b:BR}(hb:b.Ok):(bd b).Ok:=by
 refine⟨fun i hi=>Hg (fk hb.chkL _ (bU hi)),?_⟩;have:=(Bo hb.chk).1;show(0:Rat)<(b.w:Rat);have h:(0:Int)<b.w:=J
 exact_mod_cast h
theorem Qe {c:CR}(hc:c.Lim){p:Nat}(hp:p<=8):HQ (oW c.s c.m p) 300:=by
 rw[oW];refine(cd (m:=31) p fun k _=>?_).mono J;have hb:=rD hc k;have hzb:Zb (c.S.getD k 0):=aI hb.1 hb.2;exact @HQ.mul _ _ 27 4 (wg hc k) HQ.int
theorem HB {b:BR}(hb:b.Ok)(p:Nat->Nat){i:Nat}(hi:i<b.l.length):HQ ((bd b).k p i) 13:=(xU _ (hb.lim.l.1 _ (bU hi)).k (p i)).hq
theorem Mh {b:BR}(hb:b.Ok){i:Nat}(hi:i<b.l.length):HQ ((bd b).X i) 4:=by
 have hx:=(hb.lim.l.1 _ (bU hi)).x;have hx:Zb (b.l.getD i dS).x:=aI hx.1 hx.2;exact HQ.int
theorem I4 {b:BR}(hb:b.Ok)(p:Nat->Nat):HQ ((bd b).Kh p) 300:=(cd (m:=13) b.l.length fun i hi=>HB hb p hi).mono (by have:=hb.few.1;omega)
theorem I3 {b:BR}(hb:b.Ok)(p:Nat->Nat):HQ ((bd b).Kc p) 300:=(cd (m:=17) b.l.length fun i hi=>@HQ.mul _ _ 13 4 (HB hb p hi) (Mh hb hi)).mono (by have:=hb.few.1;omega)
theorem OC {b:BR}(hb:b.Ok)(p:Nat->Nat):HQ ((bd b).Kp p) 300:=(cd (m:=21) b.l.length fun i hi=>@HQ.mul _ _ 17 4 (@HQ.mul _ _ 13 4 (HB hb p hi) (Mh hb hi)) (Mh hb hi)).mono (by have:=hb.few.1;omega)
theorem JZ {b:BR}(hb:b.Ok){p:Nat->Nat}(hp:∀i,i<b.l.length->p i<=(bd b).n i){i:Nat}(hi:i<b.l.length):HQ ((bd b).k p i*(bd b).C i-(bd b).o p i) 327:=by
 have h8:=hb.few.2 _ (bU hi);have hpi:=hp i hi;have hc:HQ ((bd b).C i) 13:=(hb.lim.l.1 _ (bU hi)).c.v.hq;exact @HQ.sub _ _ 26 300 (@HQ.mul _ _ 13 13 (HB hb p hi) hc) (Qe (hb.lim.l.1 _ (bU hi)).k (bK hpi h8))
theorem OB {b:BR}(hb:b.Ok){p:Nat->Nat}(hp:∀i,i<b.l.length->p i<=(bd b).n i):HQ ((bd b).Fo p) 4100:=(cd (m:=327) b.l.length fun i hi=>JZ hb hp hi).mono (by have:=hb.few.1;omega)
theorem Rg {b:BR}(hb:b.Ok){p:Nat->Nat}(hp:∀i,i<b.l.length->p i<=(bd b).n i):HQ ((bd b).Go p) 4100:=(cd (m:=331) b.l.length fun i hi=>@HQ.mul _ _ 327 4 (JZ hb hp hi) (Mh hb hi)).mono (by have:=hb.few.1;omega)
theorem Fn {z X D0:Rat}(hd:D0≠0):z+(X-z*D0)/D0=X/D0:=by grind
theorem MN {h c p z t F G0 w M:Rat}(hd:h*p-c*c≠0):z+(p*(w-(h*z+c*t+F))-c*(M-(c*z+p*t+G0)))/(h*p-c*c)=(p*(w-F)-c*(M-G0))/(h*p-c*c):=by
 rw[show p*(w-(h*z+c*t+F))-c*(M-(c*z+p*t+G0))=(p*(w-F)-c*(M-G0))-z*(h*p-c*c) by grind,Fn hd]
theorem MP {h c p z t F G0 w M:Rat}(hd:h*p-c*c≠0):t+(h*(M-(c*z+p*t+G0))-c*(w-(h*z+c*t+F)))/(h*p-c*c)=(h*(M-G0)-c*(w-F))/(h*p-c*c):=by
 rw[show h*(M-(c*z+p*t+G0))-c*(w-(h*z+c*t+F))=(h*(M-G0)-c*(w-F))-t*(h*p-c*c) by grind,Fn hd]
theorem Gj {b:BR}(hb:b.Ok){p:Nat->Nat}{z t:Rat}(hp:(bd b).Inc p z t){d:Rat × Rat}(h:Bd.newt ((bd b).Kh p) ((bd b).Kc p) ((bd b).Kp p) ((bd b).w-(bd b).F z t) (-((bd b).e z t))=some d):HQ (z+d.1) 20000/\HQ (t+d.2) 20000:=by
 have hpn:∀i,i<b.l.length->p i<=(bd b).n i:=fun i hi=>(hp i hi).1;have hw:Zb b.w:=aI hb.lim.w.1 hb.lim.w.2;have e1:=Bd.F_at (mV hb) hp;have e2:=Bd.G_at (mV hb) hp;rw[Bd.newt]at h;split at h
 .cases h
 .rename_i hd;cases h;have hf : -((bd b).e z t)=(bd b).w*(bd b).A-(bd b).G0 z t:=by rw[Bd.e];grind
  simp only;rw[hf,e1,e2,MN hd,MP hd];have kh:=I4 hb p;have kc:=I3 hb p;have kp:=OC hb p;have fo:=OB hb hpn;have go:=Rg hb hpn;have wq:HQ ((bd b).w) 4:=HQ.int;have wa:HQ ((bd b).w*(bd b).A) 17:=Dn hb;have f1:=@HQ.sub _ _ 4 4100 wq fo;have g1:=@HQ.sub _ _ 17 4100 wa go;have dt:=@HQ.sub _ _ _ _ (@HQ.mul _ _ 300 300 kh kp) (@HQ.mul _ _ 300 300 kc kc);exact⟨(@HQ.div _ _ _ _ (@HQ.sub _ _ _ _ (@HQ.mul _ _ _ _ kp f1) (@HQ.mul _ _ _ _ kc g1)) dt).mono J,(@HQ.div _ _ _ _ (@HQ.sub _ _ _ _ (@HQ.mul _ _ _ _ kh g1) (@HQ.mul _ _ _ _ kc f1)) dt).mono J⟩
def OP (o:Option (Rat × Rat)):PV:=match o with
 |none => .tup [.agg (zN++zN),.bool false]
 |some x => .tup [.agg (eA ⟨ofQ x.1,ofQ x.2⟩),.bool true]
theorem rN {x:RR}{p:Rat}{n m:Nat}(h:Vq x p n)(hm:n<=m):Vq x p m:=⟨h.val,bK h.sz.1 hm,bK h.sz.2 hm⟩
theorem JS {b:BR}(hb:b.Ok)(z t:Rat):(bd b).Inc ((bd b).pR z t) z t:=fun i hi=>(Qm (n:=(bd b).n i) (S:=(bd b).S i) (y:=(bd b).y z t i)).c
theorem OQ {b:BR}(hb:b.Ok)(z t:Rat):(bd b).Inc ((bd b).pL z t) z t:=fun i hi=>(Eg (n:=(bd b).n i) (S:=(bd b).S i) (y:=(bd b).y z t i)).c
def SA (b:BR)(p:Nat->Nat):PV := .agg (eK (ofQ ((bd b).Kh p)) (ofQ ((bd b).Kc p)) (ofQ ((bd b).Kp p)))
theorem EZ (b:BR)(hb:b.Ok)(a:AR){z t:Rat}{n m:Nat}[ha:Va a z t n m](hn:n+m<=60000):aU 263 [.sl (b.l.map eS),.clo 303 [.dref (eA a) 0]] (SA b ((bd b).pR z t)) :=
 yP b.l hb.lim.l hb.few 303 (eA a) (fun s=>ofQ (cQ s.k.m (to s.k.s (yQ s z t) s.k.S.length))) ((bd b).k ((bd b).pR z t)) (fun s hs=>wI s (hb.lim.l.1 s hs) (fk hb.chkL s hs) a J)
  (fun i hi=>rN (Vq.ofQ (h:=HB hb ((bd b).pR z t) hi)) Y)
theorem EY (b:BR)(hb:b.Ok)(a:AR){z t:Rat}{n m:Nat}[ha:Va a z t n m](hn:n+m<=60000):aU 263 [.sl (b.l.map eS),.clo 305 [.dref (eA a) 0]] (SA b ((bd b).pL z t)) :=
 yP b.l hb.lim.l hb.few 305 (eA a) (fun s=>HD s.k (yQ s z t) s.k.S.length) ((bd b).k ((bd b).pL z t)) (fun s hs=>ye s (hb.lim.l.1 s hs) (fk hb.chkL s hs) a J)
  (fun i hi=>rN (Ke (hb.lim.l.1 _ (bU hi)).k _ _) Y)
structure TryC (b:BR) (a:AR) (z t:Rat) (fo mo:RR) (p:Nat->Nat) (d:Option (Rat × Rat)):Prop where
 mv:aU 262 [SA b p,.agg (eR fo),.agg (eR mo)] (wc d)
 af:∀x,d=some x->aU 265 [.agg (eA a),.agg (eA ⟨ofQ x.1,ofQ x.2⟩)] (.agg (eA ⟨ofQ (z+x.1),ofQ (t+x.2)⟩))
 ba:∀x,d=some x->aU 264 [.agg (eB b),.agg (eA ⟨ofQ (z+x.1),ofQ (t+x.2)⟩)] (.bool (decide ((bd b).Bal (z+x.1) (t+x.2))))
theorem Sq (b:BR)(hb:b.Ok)(a:AR){z t:Rat}{n m:Nat}(ha:Va a z t n m)(hn:n+m<=50000){p:Nat->Nat}(hp:(bd b).Inc p z t) :
  TryC b a z t (ofQ ((bd b).w-(bd b).F z t)) (ofQ (-((bd b).e z t))) p (Bd.newt ((bd b).Kh p) ((bd b).Kc p) ((bd b).Kp p) ((bd b).w-(bd b).F z t) (-((bd b).e z t))):=by
 have hw:Zb b.w:=aI hb.lim.w.1 hb.lim.w.2;have wq:HQ ((bd b).w) 4:=HQ.int;have hF:HQ ((bd b).w-(bd b).F z t) (96*(n+m+62)+400):=(@HQ.sub _ _ 4 (96*((n+1)+(m+1)+60)+200) wq (Mr hb.lim.l hb.few ha.z.hq ha.t.hq)).mono J;have hE:HQ (-((bd b).e z t)) (96*(n+m+62)+400):=(@HQ.neg _ _ (PN hb ha.z.hq ha.t.hq)).mono J;have hd:∀x,Bd.newt ((bd b).Kh p) ((bd b).Kc p) ((bd b).Kp p) ((bd b).w-(bd b).F z t) (-((bd b).e z t))=some x->HQ (z+x.1) 20000/\HQ (t+x.2) 20000:=fun x hx=>Gj hb hp hx;refine⟨HO _ _ _ _ _ (a:=300) (b:=96*(n+m+62)+400) (Vq.ofQ (h:=I4 hb p)) (Vq.ofQ (h:=I3 hb p)) (Vq.ofQ (h:=OC hb p)) (Vq.ofQ (h:=hF)) (Vq.ofQ (h:=hE)) Y J,fun x hx=>?_,fun x hx=>?_⟩
 .obtain⟨h1,h2⟩:=hd x hx;have q1:HQ x.1 (20000+(n+1)+1):=by
   have:=@HQ.sub _ _ 20000 (n+1) h1 ha.z.hq;rwa [show z+x.1-z=x.1 by grind]at this
  have q2:HQ x.2 (20000+(m+1)+1):=by
   have:=@HQ.sub _ _ 20000 (m+1) h2 ha.t.hq;rwa [show t+x.2-t=x.2 by grind]at this
  exact G_ a ⟨ofQ x.1,ofQ x.2⟩ (hd:=⟨Vq.ofQ (h:=q1),Vq.ofQ (h:=q2)⟩) J J J J
 .obtain⟨h1,h2⟩:=hd x hx;exact y7 b hb ⟨ofQ (z+x.1),ofQ (t+x.2)⟩ (ha:=⟨Vq.ofQ (h:=h1),Vq.ofQ (h:=h2)⟩) Y
def II (b:BR)(z t:Rat):Option (Rat × Rat)->Option (Rat × Rat)
 |none=>none
 |some d=>if (bd b).Bal (z+d.1) (t+d.2) then some (z+d.1,t+d.2) else none
def Q5 (b:BR)(z t:Rat)(p:Nat->Nat):Option (Rat × Rat):=Bd.newt ((bd b).Kh p) ((bd b).Kc p) ((bd b).Kp p) ((bd b).w-(bd b).F z t) (-((bd b).e z t))
theorem GM (b:BR)(z t:Rat)(p:Nat->Nat):(bd b).tryP z t p=II b z t (Q5 b z t p):=by
 rw[Bd.tryP,Q5];cases Bd.newt ((bd b).Kh p) ((bd b).Kc p) ((bd b).Kp p) ((bd b).w-(bd b).F z t) (-((bd b).e z t))<;>rfl
theorem Hu (b:BR)(hb:b.Ok)(a:AR){z t:Rat}{n m:Nat}[ha:Va a z t n m](hn:n+m<=50000):aU 192 [.agg (eB b),.agg (eA a)] (OP ((bd b).guess z t)):=by
 have h1:=qj b.l hb.lim.l hb.chkL hb.few a J;have h2:=cO b.w hb.lim.w;have zw:Zb b.w:=aI hb.lim.w.1 hb.lim.w.2;have v1:Vq (ofQ (aq (fI b.l z t) b.l.length)) (aq (fI b.l z t) b.l.length) (96*(n+1+(m+1)+60)+200):=Vq.ofQ (h:=Mr hb.lim.l hb.few ha.z.hq ha.t.hq);have h3:=nk (ofQ (b.w:Rat)) (ofQ (aq (fI b.l z t) b.l.length)) (hy:=v1) Y J;rw[show(b.w:Rat)-aq (fI b.l z t) b.l.length=(bd b).w-(bd b).F z t from O]at h3;have h4:=vA b hb a J;have v4:Vq (ofQ ((bd b).e z t)) ((bd b).e z t) (96*(n+1+(m+1)+60)+200+17+1):=Vq.ofQ (h:=PN hb ha.z.hq ha.t.hq);have h5:=RH (ofQ ((bd b).e z t)) (hx:=v4) J;have h6:=yG a;have h7:=BY a;have sR:=EZ b hb a (z:=z) (t:=t) J;have sL:=EY b hb a (z:=z) (t:=t) J;have cR:=Sq b hb a ha hn (JS hb z t);have cL:=Sq b hb a ha hn (OQ hb z t);rw[show Bd.newt ((bd b).Kh ((bd b).pR z t)) ((bd b).Kc ((bd b).pR z t)) ((bd b).Kp ((bd b).pR z t)) ((bd b).w-(bd b).F z t) (-((bd b).e z t))=Q5 b z t ((bd b).pR z t) from O]at cR;rw[show Bd.newt ((bd b).Kh ((bd b).pL z t)) ((bd b).Kc ((bd b).pL z t)) ((bd b).Kp ((bd b).pL z t)) ((bd b).w-(bd b).F z t) (-((bd b).e z t))=Q5 b z t ((bd b).pL z t) from O]at cL;generalize hG:(bd b).guess z t=G0;rw[Bd.guess,GM,GM]at hG;generalize hPR:(bd b).pR z t=pR at *
 generalize hPL:(bd b).pL z t=pL at *
 obtain⟨m1,m2,m3⟩:=cR;obtain⟨l1,l2,l3⟩:=cL;generalize Q5 b z t pR=oR,Q5 b z t pL=oL at *
 rw[SA]at sR sL m1 l1;generalize ofQ ((bd b).Kh pR)=R1,ofQ ((bd b).Kc pR)=R2,ofQ ((bd b).Kp pR)=R3,ofQ ((bd b).Kh pL)=L1,ofQ ((bd b).Kc pL)=L2,ofQ ((bd b).Kp pL)=L3,ofQ ((bd b).w-(bd b).F z t)=FO,ofQ (-((bd b).e z t))=MO,ofQ ((bd b).e z t)=EX,ofQ (aq (fI b.l z t) b.l.length)=TF,ofQ (aq (gI b.l z t) b.l.length)=TG at *
 refine aD Proofs.Tryz.func192 ?_;refine G h1 ?_;refine H ?_;refine a_ [(6,8),(7,8)] aH aH ?_;refine G h2 ?_;refine G h3 ?_;refine G h4 ?_;refine G h5 ?_;refine H ?_;refine bL [35] [4,5] aH ?_;refine G h6 ?_;refine G h7 ?_;refine H ?_;refine jQ O O O (bb 2 O O O O O O O O O O O ah O ⟨fU O,?_⟩);refine H ?_;refine ai (fun i:Nat=>(i=0/\(match II b z t oR with|some x=>some x|none=>II b z t oL)=G0)\/(i=1/\II b z t oL=G0)\/(i=2/\G0=none)) (fun i=>[(2,.ptr 2 1 0 0),(3,.ptr 3 1 0 0),(4,.ptr 4 1 0 0),(8,.ptr 8 1 0 0),(9,.ptr 9 1 0 0),(35,.als 35 1 0 2),(36,I 2),(37,I (i:Nat))])
  (fun _=>[(2,1,⟨128,6,[eB b],2⟩),(3,1,⟨43,8,[eA a],2⟩),(4,1,⟨43,8,[zN++zN],2⟩),(8,1,⟨41,4,[eR FO],2⟩),(9,1,⟨41,4,[eR MO],2⟩),(35,1,⟨270,1,[[.clo 303 [.dref (eA a) 0]],[.clo 305 [.dref (eA a) 0]]],2⟩)]) (fun i=>2-i) 0 (.inl ⟨O,hG⟩) ah ?_
 intro i s hi;rcases hi with⟨rfl,hG⟩|⟨rfl,hG⟩|⟨rfl,hG⟩
 .cases oR with
  |none =>
   refine H ?_;refine ci O O (cF O O O O O O O Y Y) ?_;refine H ?_;refine bL [12] [10,11] aH ?_;refine G sR ?_;refine G m1 ?_;refine cX 8 [51,52,53,54,55,56,57,58] ?_;refine H ?_;exact⟨1,.inr (.inl ⟨O,hG⟩),Y,ah⟩
  |some d =>
   have k1:=m2 d O;have k2:=m3 d O;rw[wc]at m1;rw[II]at hG;by_cases hbal:(bd b).Bal (z+d.1) (t+d.2)
   .rw[decide_eq_true hbal]at k2;rw[if_pos hbal]at hG;try simp only at hG
    subst hG;rw[OP];dsimp only;generalize ofQ (z+d.1)=Y1,ofQ (t+d.2)=Y2,ofQ d.1=Y3,ofQ d.2=Y4 at *
    refine H ?_;refine ci O O (cF O O O O O O O Y Y) ?_;refine H ?_;refine bL [12] [10,11] aH ?_;refine G sR ?_;refine G m1 ?_;refine cX 8 [51,52,53,54,55,56,57,58] ?_;refine G k1 ?_;refine ax k2 ?_;refine G k1 ?_;exact cA
   .rw[decide_eq_false hbal]at k2;rw[if_neg hbal]at hG;try simp only at hG
    generalize ofQ (z+d.1)=Y1,ofQ (t+d.2)=Y2,ofQ d.1=Y3,ofQ d.2=Y4 at *
    refine H ?_;refine ci O O (cF O O O O O O O Y Y) ?_;refine H ?_;refine bL [12] [10,11] aH ?_;refine G sR ?_;refine G m1 ?_;refine cX 8 [51,52,53,54,55,56,57,58] ?_;refine G k1 ?_;refine ax k2 ?_;refine H ?_;exact⟨1,.inr (.inl ⟨O,hG⟩),Y,ah⟩
 .cases oL with
  |none =>
   refine H ?_;refine ci O O (cF O O O O O O O Y Y) ?_;refine H ?_;refine bL [12] [10,11] aH ?_;refine G sL ?_;refine G l1 ?_;refine cX 8 [51,52,53,54,55,56,57,58] ?_;refine H ?_;exact⟨2,.inr (.inr ⟨O,hG.symm⟩),Y,ah⟩
  |some d =>
   have k1:=l2 d O;have k2:=l3 d O;rw[wc]at l1;rw[II]at hG;by_cases hbal:(bd b).Bal (z+d.1) (t+d.2)
   .rw[decide_eq_true hbal]at k2;rw[if_pos hbal]at hG;try simp only at hG
    subst hG;rw[OP];dsimp only;generalize ofQ (z+d.1)=Y1,ofQ (t+d.2)=Y2,ofQ d.1=Y3,ofQ d.2=Y4 at *
    refine H ?_;refine ci O O (cF O O O O O O O Y Y) ?_;refine H ?_;refine bL [12] [10,11] aH ?_;refine G sL ?_;refine G l1 ?_;refine cX 8 [51,52,53,54,55,56,57,58] ?_;refine G k1 ?_;refine ax k2 ?_;refine G k1 ?_;exact cA
   .rw[decide_eq_false hbal]at k2;rw[if_neg hbal]at hG;try simp only at hG
    generalize ofQ (z+d.1)=Y1,ofQ (t+d.2)=Y2,ofQ d.1=Y3,ofQ d.2=Y4 at *
    refine H ?_;refine ci O O (cF O O O O O O O Y Y) ?_;refine H ?_;refine bL [12] [10,11] aH ?_;refine G sL ?_;refine G l1 ?_;refine cX 8 [51,52,53,54,55,56,57,58] ?_;refine G k1 ?_;refine ax k2 ?_;refine H ?_;exact⟨2,.inr (.inr ⟨O,hG.symm⟩),Y,ah⟩
 .subst hG;exact cA
def rV (s:SR)(z t:Rat):Rat:=cQ s.k.m (to s.k.s (yQ s z t) s.k.S.length)
def lV (s:SR)(z t:Rat):Rat:=cQ s.k.m (yu s.k.s (yQ s z t) s.k.S.length)
def yo (z t A B:Rat)(s:SR):Bool:=decide (¬((0<A+B*(s.x:Rat)/\rV s z t≠0)\/(A+B*(s.x:Rat)<0/\lV s z t≠0)))
def m9 (l:List SR)(z t A B:Rat):Bool:=l.all (yo z t A B)
theorem GD {p:Rat}(h:0<p):sgn p=1:=by rw[sgn,if_neg bP,if_neg bP]
theorem GC {p:Rat}(h:p<0):sgn p = -1:=by rw[sgn,if_pos h]
theorem wJ {p:Rat}(h:p=0):sgn p=0:=(gi p).2 h
theorem Ll {p:Rat}(h:p≠0):sgn p=1\/sgn p = -1:=by
 rcases dL (0<p) with h1|h1
 .exact .inl (GD h1)
 .exact .inr (GC bP)
theorem JI (b:BR)(hb:b.Ok)(a:AR){z t:Rat}{n m:Nat}[ha:Va a z t n m](hn:n+m<=50000)(r:AR){A B:Rat}{n' m':Nat}(hr:Va r A B n' m')(h2:n'<=100000)(h3:m'<=100000):aU 196 [.agg (eB b),.agg (eA a),.agg (eA r)] (.bool (m9 b.l z t A B)):=by
 have h6:=yG a;have h7:=BY a;have hck:=hb.chkL;have hl:=hb.lim.l;have h12:=hb.few.1;have hrz:=hr.z;have hrt:=hr.t;generalize hF:m9 b.l z t A B=F;rw[m9]at hF;obtain⟨w,ba,l⟩:=b;simp only at *
 have hml:(l.map eS).length=l.length:=ap;obtain⟨rz,rt⟩:=r;simp only at hrz hrt;refine aD Proofs.Tryz.func196 ?_;refine H ?_;refine ai (fun i:Nat=>i<=l.length/\(l.drop i).all (yo z t A B)=l.all (yo z t A B)) (fun i=>[(4,.ptr 4 1 0 0),(5,.ptr 5 1 0 0),(11,.sl (l.map eS)),(12,I l.length),(13,I (i:Nat))])
  (fun i=>[(4,1,⟨43,8,[eA a],2⟩),(5,1,⟨48,8,[eA ⟨rz,rt⟩],2⟩)]) (fun i=>l.length-i) 0 ⟨aP _,by rw[fO]⟩ ⟨O,O,O,by rw[<-hml];rfl,ah⟩ ?_
 intro i s ⟨hi,hall⟩;refine D ?_ ?_<;>intro h
 .have hlt:i<l.length:=cw h;clear h;obtain⟨x,hx⟩:=ay hlt;have hxm:=bC hx;have hxl:=hl.1 x hxm;have hkc:=fk hck x hxm;have zx:Zb x.x:=aI hxl.x.1 hxl.x.2;have hw:=dN i;have hdr:(l.drop i).all (yo z t A B)=(yo z t A B x&&(l.drop (i+1)).all (yo z t A B)):=by
   obtain⟨hl1,h2⟩:=cb hx;rw[jm hl1,h2,rc]
  rw[hdr]at hall;have hbd:yo z t A B x=yo z t A B x:=O
  conv at hbd=>rhs;rw[yo]
  have e1:=cO x.x hxl.x;have e2:=iE rt (ofQ (x.x:Rat)) (hx:=hrt) J Y;have v2:Vq (ofQ (B*(x.x:Rat))) (B*(x.x:Rat)) (m'+1+4):=Vq.ofQ (h:=@HQ.mul _ _ (m'+1) 4 hrt.hq HQ.int);have e3:=eJ rz (ofQ (B*(x.x:Rat))) (hx:=hrz) (hy:=v2) J J;have v3:Vq (ofQ (A+B*(x.x:Rat))) (A+B*(x.x:Rat)) (n'+1+(m'+1+4)+1):=Vq.ofQ (h:=@HQ.add _ _ (n'+1) _ hrz.hq (iH v2));have e4:=wN (ofQ (A+B*(x.x:Rat))) (hx:=v3) J;have cr:=wI x hxl hkc a (z:=z) (t:=t) J;have cl:=ye x hxl hkc a (z:=z) (t:=t) J;rw[show cQ x.k.m (to x.k.s (yQ x z t) x.k.S.length)=rV x z t from O]at cr;have vr:Vq (ofQ (rV x z t)) (rV x z t) 13:=Vq.ofQ (h:=(xU x.k hxl.k _).hq);have vl:Vq (HD x.k (yQ x z t) x.k.S.length) (lV x z t) 12:=Ke hxl.k _ _;have sr:=wN (ofQ (rV x z t)) (hx:=vr) Y;have sl:=wN (HD x.k (yQ x z t) x.k.S.length) (hx:=vl) Y;generalize ofQ (rV x z t)=RV,HD x.k (yQ x z t) x.k.S.length=LV,yo z t A B x=ok,ofQ (A+B*(x.x:Rat))=D1,ofQ (B*(x.x:Rat))=D2,ofQ (x.x:Rat)=D3 at *
  rcases dL (0<A+B*(x.x:Rat)) with hd|hd
  .rw[GD hd]at e4;rcases dL (rV x z t=0) with hz|hz
   .rw[wJ hz]at sr;have hbad:ok=true:=by rw[hbd,decide_eq_true];rintro(⟨_,h⟩|⟨h,_⟩);exact h hz;grind
    rw[hbad,iX]at hall;refine aN hx ?_;refine cX 11 [17,18,19,20,21,22,23,24,25,26,9] ?_;refine G e1 ?_;refine G e2 ?_;refine G e3 ?_;refine ax e4 ?_;refine cX 22 [27,28,29,30,31,32,33,34,35,36,37,38,39,40,41,42,43,44,45,46,47,48] ?_;refine G h6 ?_;refine G cr ?_;refine ax sr ?_;refine H ?_;exact⟨i+1,⟨J,hall⟩,J,O,O,O,O,congrArg I hw,ah⟩
   .have hbad:ok=false:=by rw[hbd,decide_eq_false];exact fun h=>h (.inl ⟨hd,hz⟩)
    rw[hbad,fg]at hall;rcases Ll hz with hs|hs
    .rw[hs]at sr;refine aN hx ?_;refine cX 11 [17,18,19,20,21,22,23,24,25,26,9] ?_;refine G e1 ?_;refine G e2 ?_;refine G e3 ?_;refine ax e4 ?_;refine cX 22 [27,28,29,30,31,32,33,34,35,36,37,38,39,40,41,42,43,44,45,46,47,48] ?_;refine G h6 ?_;refine G cr ?_;refine ax sr ?_;refine H ?_;exact fH O O (by rw[<-hF,<-hall])
    .rw[hs]at sr;refine aN hx ?_;refine cX 11 [17,18,19,20,21,22,23,24,25,26,9] ?_;refine G e1 ?_;refine G e2 ?_;refine G e3 ?_;refine ax e4 ?_;refine cX 22 [27,28,29,30,31,32,33,34,35,36,37,38,39,40,41,42,43,44,45,46,47,48] ?_;refine G h6 ?_;refine G cr ?_;refine ax sr ?_;refine H ?_;exact fH O O (by rw[<-hF,<-hall])
  .rcases dL (A+B*(x.x:Rat)<0) with hd2|hd2
   .rw[GC hd2]at e4;rcases dL (lV x z t=0) with hz|hz
    .rw[wJ hz]at sl;have hbad:ok=true:=by rw[hbd,decide_eq_true];rintro(⟨h,_⟩|⟨_,h⟩);exact hd h;exact h hz
     rw[hbad,iX]at hall;refine aN hx ?_;refine cX 11 [17,18,19,20,21,22,23,24,25,26,9] ?_;refine G e1 ?_;refine G e2 ?_;refine G e3 ?_;refine ax e4 ?_;refine cX 22 [27,28,29,30,31,32,33,34,35,36,37,38,39,40,41,42,43,44,45,46,47,48] ?_;refine G h7 ?_;refine G cl ?_;refine ax sl ?_;refine H ?_;exact⟨i+1,⟨J,hall⟩,J,O,O,O,O,congrArg I hw,ah⟩
    .have hbad:ok=false:=by rw[hbd,decide_eq_false];exact fun h=>h (.inr ⟨hd2,hz⟩)
     rw[hbad,fg]at hall;rcases Ll hz with hs|hs
     .rw[hs]at sl;refine aN hx ?_;refine cX 11 [17,18,19,20,21,22,23,24,25,26,9] ?_;refine G e1 ?_;refine G e2 ?_;refine G e3 ?_;refine ax e4 ?_;refine cX 22 [27,28,29,30,31,32,33,34,35,36,37,38,39,40,41,42,43,44,45,46,47,48] ?_;refine G h7 ?_;refine G cl ?_;refine ax sl ?_;refine H ?_;exact fH O O (by rw[<-hF,<-hall])
     .rw[hs]at sl;refine aN hx ?_;refine cX 11 [17,18,19,20,21,22,23,24,25,26,9] ?_;refine G e1 ?_;refine G e2 ?_;refine G e3 ?_;refine ax e4 ?_;refine cX 22 [27,28,29,30,31,32,33,34,35,36,37,38,39,40,41,42,43,44,45,46,47,48] ?_;refine G h7 ?_;refine G cl ?_;refine ax sl ?_;refine H ?_;exact fH O O (by rw[<-hF,<-hall])
   .rw[wJ (show A+B*(x.x:Rat)=0 by grind)]at e4;have hbad:ok=true:=by rw[hbd,decide_eq_true];rintro(⟨h,_⟩|⟨h,_⟩);exact hd h;exact hd2 h
    rw[hbad,iX]at hall;refine aN hx ?_;refine cX 11 [17,18,19,20,21,22,23,24,25,26,9] ?_;refine G e1 ?_;refine G e2 ?_;refine G e3 ?_;refine ax e4 ?_;refine cX 22 [27,28,29,30,31,32,33,34,35,36,37,38,39,40,41,42,43,44,45,46,47,48] ?_;refine H ?_;exact⟨i+1,⟨J,hall⟩,J,O,O,O,O,congrArg I hw,ah⟩
 .have hie:i=l.length:=co h;clear h;rw[hie,gX,List.all_nil]at hall;rw[<-hall]at hF;subst hF;exact kU
theorem D_ (b:BR)(hb:b.Ok)(a:AR){z t:Rat}{n m:Nat}[ha:Va a z t n m](hn:n+m<=50000)(r:AR){A B:Rat}{n' m':Nat}(hr:Va r A B n' m')(h2:n'<=100000)(h3:m'<=100000):aU 195 [.agg (eA r),.dref (eB b) 0,.dref (eA a) 0] (.bool (m9 b.l z t A B)):=by
 have h1:=JI b hb a (z:=z) (t:=t) hn r hr h2 h3;generalize m9 b.l z t A B=F at *
 refine aD Proofs.Tryz.func195 ?_;refine ax h1 ?_;exact kU
def vR (p:AR->Bool):List AR->Nat->Int
 |[],_ => -1
 |d::l,i=>if p d=true then(i:Int) else vR p l (i+1)
theorem BO (p:AR->Bool):∀(l:List AR) (i:Nat),decide (0<=vR p l i)=l.any p
 |[],i=>rfl
 |d::l,i=>by
  rw[vR,List.any_cons];cases h:p d
  .rw[if_neg Y,BO p l (i+1),k_]
  .rw[if_pos O,uu,decide_eq_true];omega
theorem Hw (p:AR->Bool){l:List AR}{i:Nat}{x:AR}(h:l[i]?=some x):vR p (l.drop i) i=if p x=true then(i:Int) else vR p (l.drop (i+1)) (i+1):=by
 obtain⟨hl,rfl⟩:=cb h;rw[jm hl,vR]
theorem DZ (T:List AR)(hT:T.length<=1000)(f:FuncId)(c1 c2:List PV)(p:AR->Bool)(hg:∀d∈T,aU f [.agg (eA d),.dref c1 0,.dref c2 0] (.bool (p d))):aU 266 [.sl (T.map eA),.clo f [.dref c1 0,.dref c2 0]] (I (vR p T 0)):=by
 have hml:(T.map eA).length=T.length:=ap;generalize hF:vR p T 0=F;refine aD Proofs.Tryz.func266 ?_;refine H ?_;refine ai (fun i:Nat=>i<=T.length/\vR p (T.drop i) i=F) (fun i=>[(0,.sl (T.map eA)),(1,.clo f [.dref c1 0,.dref c2 0]),(7,I T.length),(8,I (i:Nat))])
  (fun _=>[]) (fun i=>T.length-i) 0 ⟨aP _,by rw[fO];exact hF⟩ ⟨O,O,by rw[<-hml];rfl,O,bh⟩ ?_
 intro i s ⟨hi,hall⟩;refine D ?_ ?_<;>intro h
 .have hlt:i<T.length:=cw h;clear h;obtain⟨x,hx⟩:=ay hlt;have hgx:=hg x (bC hx);have hw:=dN i;rw[Hw p hx]at hall;cases hp:p x with
  |true =>
   rw[hp]at hgx;rw[if_pos hp]at hall;refine aN hx ?_;refine ax hgx ?_;refine H ?_;exact o9 O O (by rw[<-hall])
  |false =>
   rw[hp]at hgx;rw[if_neg (by rw[hp];decide)]at hall;refine aN hx ?_;refine ax hgx ?_;refine H ?_;exact⟨i+1,⟨J,hall⟩,J,O,O,O,congrArg I hw,bh⟩
 .have hie:i=T.length:=co h;clear h;rw[hie,gX,vR]at hall;rw[<-hall];exact cB
theorem xz (T:List AR)(hT:T.length<=1000)(f:FuncId)(c1 c2:List PV)(p:AR->Bool)(hg:∀d∈T,aU f [.agg (eA d),.dref c1 0,.dref c2 0] (.bool (p d))):aU 194 [.sl (T.map eA),.clo f [.dref c1 0,.dref c2 0]] (.bool (T.any p)):=by
 have h1:=DZ T hT f c1 c2 p hg;rw[<-BO p T 0];generalize vR p T 0=F at *
 refine aD Proofs.Tryz.func194 ?_;refine ax h1 ?_;exact kU
theorem Fa {K:St->Prop}{s:St}{d g2 g3:Nat}{R2 R3:Cont}{x:Operand}{tys:Array TypeId}{ty:TypeId}{pos:String}{af:Array Edge}(l:List SR)(hl:l8 l)(h12:l.length<=1000)(hck:ej l=0)
  (hx:s.ev x=.sl (l.map eS)) (ho:FitO s [(2,g2,R2),(1003,g3,R3)])
  (hK:∀(s1:St) (g:Nat),K (({ reg:=s.reg,own:=(s1.over [] [(2,g2,R2),(1003,g3,R3),(3,g,⟨48,8,(gj l).map eA,1⟩)]).own }:St).putR d (.als 3 g 0 ((gj l).map eA).length))) :
  Sm Tryz.prog lay.get s ⟨some d,.call ⟨.value (.func 187),#[x],tys⟩,ty,pos,af,none⟩ K:=by
 have hp:=wt l hl h12;have hrg:∀x∈dc l,-1000000<=x/\x<=1000000:=fun x hx=>lj hck hx;have hpl:=mL l;have w1:=cO 1 ⟨Y,Y⟩;have w2:=cO (-1) ⟨Y,Y⟩;rw[gj]at hK;generalize dc l=Pl at *
 have hml:(Pl.map eN).length=Pl.length:=ap;have hrows:∀(k:Nat) x,Pl[k]?=some x->((Pl.take (k+1)).map xN).map eA=((Pl.take k).map xN).map eA++[eA (xN x)]:=fun k x hx=>by rw[bR hx,bj,bj];rfl
 have hrows2:∀(k:Nat) x,Pl[k]?=some x->(Pl.map xN++(Pl.take (k+1)).map Fu).map eA=(Pl.map xN++(Pl.take k).map Fu).map eA++[eA (Fu x)]:=fun k x hx=>by rw[bR hx];simp[bj]
 refine cz layOk O O Tryz.func187 O Y O O ?_;show PWP _ _ _ _ (bB s (([x]:List Operand).map s.ev++[]));rw[show(([x]:List Operand).map s.ev++([]:List PV))=[.sl (l.map eS)] by simp[hx]];rw[show bB s [.sl (l.map eS)]=bB (s.over [] [(2,g2,R2),(1003,g3,R3)]) [.sl (l.map eS)] by rw[Fit.over (l:=[]) ho]]
 ((repeat (first|refine bJ ?_ | refine eg ?_ | refine dO ?_ | refine dH ?_));refine bZ ?_)
 refine lY O trivial ?_
 ((repeat (first|refine bJ ?_ | refine eg ?_ | refine dO ?_ | refine dH ?_));refine bZ ?_)
 (first|refine aC (kF 48 8 1 O O ?_)|refine aC (kE 48 8 1 O O ?_))
 refine G hp ?_;refine H ?_;refine aQ [(0,.sl (l.map eS)),(3,.als 3 ((s.own 3).1+1) 0 0),(9,.sl (Pl.map eN)),(10,I (Pl.map eN).length),(11,I ((0:Nat):Int))] [(2,g2,R2),(1003,g3,R3),(3,(s.own 3).1+1,⟨48,8,[],1⟩)] ah ?_;generalize (s.own 3).1+1=g;rw[hml];intro s0;refine ai (fun k=>k<=Pl.length) (fun k=>[(0,.sl (l.map eS)),(3,.als 3 (g+k) 0 (((Pl.take k).map xN).map eA).length),(9,.sl (Pl.map eN)),(10,I Pl.length),(11,I k)]) (fun k=>[(2,g2,R2),(1003,g3,R3),(3,g+k,⟨48,8,((Pl.take k).map xN).map eA,1⟩)]) (fun k=>Pl.length-k) 0 (aP _) ah ?_;intro k s1 hk;refine D ?_ ?_<;>intro h
 .have hlt:k<Pl.length:=cw h;clear h;obtain⟨x,hx⟩:=ay hlt;have hr:=hrg x (bC hx);have hnx:=cO (-x) ⟨J,J⟩;have hw:=dN k;have hn:IntKind.i64.wrap (0-x) = -x:=by rw[wrap_i64 J J];omega
  refine aN hx ?_;refine H ?_;rw[hn];refine oJ O O O hnx O O ?_;refine G w1 ?_;refine H ?_;refine aC (bb 1 O O O O O O O O O O O ah O ?_);refine H ?_;refine aC (bO 1 O O O O O O O O O O O ah fW O O aS aS ?_);refine H ?_;refine⟨k+1,hlt,J,O,?_,O,O,congrArg I hw,O,O,?_,bh⟩
  .rw[hrows k x hx];rfl
  .rw[hrows k x hx];rfl
 .have hge:k=Pl.length:=co h;subst hge;clear h;rw[bI];refine G hp ?_;refine H ?_;refine ai (fun k=>k<=Pl.length) (fun k=>[(3,.als 3 (g+Pl.length+k) 0 ((Pl.map xN++(Pl.take k).map Fu).map eA).length),(25,.sl (Pl.map eN)),(26,I Pl.length),(27,I k)]) (fun k=>[(2,g2,R2),(1003,g3,R3),(3,g+Pl.length+k,⟨48,8,(Pl.map xN++(Pl.take k).map Fu).map eA,1⟩)]) (fun k=>Pl.length-k) 0 (aP _) ⟨by rw[dK,dp,cu];rfl,O,by rw[<-hml];rfl,O,O,O,by rw[dK,dp,cu];rfl,bh⟩ ?_;intro k s2 hk;refine D ?_ ?_<;>intro h
  .have hlt:k<Pl.length:=cw h;clear h;obtain⟨x,hx⟩:=ay hlt;have hr:=hrg x (bC hx);have hnx:=cO x ⟨J,J⟩;have hw:=dN k;refine aN hx ?_;refine G hnx ?_;refine G w2 ?_;refine H ?_;refine aC (bb 1 O O O O O O O O O O O ah O ?_);refine H ?_;refine aC (bO 1 O O O O O O O O O O O ah fW O O aS aS ?_);refine H ?_;refine⟨k+1,hlt,J,?_,O,O,congrArg I hw,O,O,?_,bh⟩
   .rw[hrows2 k x hx];rfl
   .rw[hrows2 k x hx];rfl
  .have hge:k=Pl.length:=co h;subst hge;clear h;rw[bI];refine H ?_;exact zt O O (hK s2 (g+Pl.length+Pl.length))
def O7:AR:=⟨ofQ ((-1:Int):Rat),ofQ ((0:Int):Rat)⟩
def nE (l:List SR):List AR:=gj l++[iI,O7]
def nJ (b:BR)(z t:Rat):Bool:=(nE b.l).any fun d=>m9 b.l z t d.z.val d.t.val
theorem MV {l:List SR}(hck:ej l=0){r:AR}(h:r∈nE l):Va r r.z.val r.t.val 4 4:=by
 rw[nE,dJ]at h;rcases h with h|h
 .exact GN hck h
 .simp at h;rcases h with rfl|rfl
  .exact Fw
  .exact⟨vI ⟨Y,Y⟩,vI ⟨Y,Y⟩⟩
theorem Oh {r1 r2:List PV}{n:Nat}(h1:r1.length=n)(h2:r2.length=n):∀row∈[r1,r2],row.length=n:=by
 intro row hr;rcases bV.1 hr with rfl|hr
 .exact h1
 .rcases bV.1 hr with rfl|hr
  .exact h2
  .cases hr
theorem yf (b:BR)(hb:b.Ok)(a:AR){z t:Rat}{n m:Nat}[ha:Va a z t n m](hn:n+m<=50000):aU 121 [.agg (eB b),.agg (eA a)] (.bool (nJ b z t)):=by
 have hl:=hb.lim.l;have hck:=hb.chkL;have h12:=hb.few.1;have hlen:(nE b.l).length<=1000:=by
  have:=mL b.l;rw[nE,gj];simp;omega
 have hc:=xz (nE b.l) hlen 195 (eB b) (eA a) (fun d=>m9 b.l z t d.z.val d.t.val) fun d hd=>D_ b hb a (z:=z) (t:=t) hn d (MV hck hd) Y Y;rw[show(nE b.l).any (fun d=>m9 b.l z t d.z.val d.t.val)=nJ b z t from O]at hc;have w1:=cO 1 ⟨Y,Y⟩;have w0:=cO 0 ⟨Y,Y⟩;have w2:=cO (-1) ⟨Y,Y⟩;generalize nJ b z t=F at *
 have hT:(gj b.l).length<=1000:=by rw[nE]at hlen;simp at hlen;omega
 have hrow:(gj b.l).map eA++[eA iI,eA O7]=(nE b.l).map eA:=by rw[nE,bj];rfl
 refine aD Proofs.Tryz.func121 ?_;refine cV 1 ?_;refine ao (Ghost.move (k:=3) (k':=1003) (t:=3) O O O O) ?_
 (refine cV 1 ?_;refine aR 2 ?_)
 iterate 2 refine iQ O ?_
 refine bJ ?_;refine br O (Fa (g2:=1) (g3:=1) b.l hl J hck O ⟨O,O,bh⟩ fun s1 g=>?_);refine aT ?_;refine G w1 ?_;refine G w0 ?_;refine G w2 ?_;refine G w0 ?_;refine H ?_;refine aC (bb 1 O O O O O O O O O O O ah O ?_);refine H ?_;refine aC (bO 1 O O O O O O O O O O O ah (Oh O O) O O aS aS ?_);refine cV 2 ?_;refine ao (Ghost.data (k:=2) (t:=2) O O O O) ?_;refine ao (Ghost.data (k:=1003) (t:=3) O O O O) ?_;refine H ?_;rw[<-hrow]at hc;refine Q6 O O O hc O O O ?_;exact kU
theorem Rk (s:SR)(t:Rat)(k:Nat):prB (bn s t k)=(s.k.s k-(s.c.val+t*(s.x:Rat)),s.k.m k-cQ s.k.m k):=by
 rw[prB,bn,ofQ_val,ofQ_val];rfl
theorem PC (b:BR)(t:Rat):(o8 b.l t).map prB=(bd b).bnds t:=by
 rw[o8,Bd.bnds,List.map_flatMap];show _=(List.range b.l.length).flatMap ((bd b).bnd1 t);have e:∀s:SR,(ol t s).map prB=(List.range s.k.S.length).map fun k=>(s.k.s k-(s.c.val+t*(s.x:Rat)),s.k.m k-cQ s.k.m k):=by
  intro s;rw[ol,dU];exact da fun k _=>Rk s t k
 have key:∀(l:List SR),(l.flatMap fun s=>(ol t s).map prB)=(List.range l.length).flatMap fun i=>(ol t (l.getD i dS)).map prB:=by
  intro l
  induction l with
  |nil=>rfl
  |cons x l ih =>
   rw[j5,ih,dl,zJ,j5,List.flatMap_map];rfl
 rw[key];refine congrArg (fun f=>(List.range b.l.length).flatMap f) (funext fun i=>?_);rw[e];rfl
theorem sS {b:BR}(hb:b.Ok){t:Rat}(hex:∃z,(bd b).w<=(bd b).F z t):(bd b).Least (kP b t) t:=by
 refine Bd.settled_least (mV hb) hex ?_ ?_
 .rw[<-PC];exact(iG cG (o8 b.l t)).map prB
 .rw[Je,List.pairwise_map];exact jb cG (o8 b.l t)
theorem nX {b:BR}(hb:b.Ok){t:Rat}(hex:∃z,(bd b).w<=(bd b).F z t):kP b t=(bd b).sg t:=(Bd.sg_eq (sS hb hex)).symm
theorem JT {b:BR}(z t:Rat):(bd b).Inl ((bd b).pL z t) z t:=fun i hi=>Eg
theorem E3 {b:BR}(hb:b.Ok){t:Rat}{m:Nat}(ht:HQ t m)(hex:∃z,(bd b).w<=(bd b).F z t):HQ (kP b t) (m+5000):=by
 have hl:=sS hb hex;have hK:=hl.K (mV hb) (JT _ _);have hz:=Bd.ln_at (mV hb) hl.1 (JT (b:=b) (kP b t) t).c hK;rw[hz,Bd.ln];have hw:Zb b.w:=aI hb.lim.w.1 hb.lim.w.2;have wq:HQ ((bd b).w) 4:=HQ.int;have hpn:∀i,i<b.l.length->(bd b).pL (kP b t) t i<=(bd b).n i:=fun i hi=>(JT (b:=b) (kP b t) t i hi).1;have fo:=OB hb hpn;have kc:=I3 hb ((bd b).pL (kP b t) t);have kh:=I4 hb ((bd b).pL (kP b t) t);exact(@HQ.div _ _ _ 300 (@HQ.sub _ _ _ _ (@HQ.sub _ _ 4 4100 wq fo) (@HQ.mul _ _ 300 m kc ht)) kh).mono J
theorem LP {b:BR}(hb:b.Ok){t:Rat}{m:Nat}(ht:HQ t m)(hex:∃z,(bd b).w<=(bd b).F z t):Va ⟨ofQ (kP b t),ofQ t⟩ (kP b t) t (m+5000) m:=⟨Vq.ofQ (h:=E3 hb ht hex),Vq.ofQ (h:=ht)⟩
theorem BE {b:BR}(hb:b.Ok){t:Rat}{m:Nat}(ht:HQ t m)(hm:m<=20000)(hex:∃z,(bd b).w<=(bd b).F z t):aU 189 [.agg (eB b),.agg (eA ⟨ofQ (kP b t),ofQ t⟩)] (.agg (eR (ofQ ((bd b).E t)))):=by
 have:=vA b hb ⟨ofQ (kP b t),ofQ t⟩ (ha:=LP hb ht hex) J;rwa [show(bd b).e (kP b t) t=(bd b).E t by rw[Bd.E,nX hb hex]]at this
theorem Iu {b:BR}(hb:b.Ok){t:Rat}{m:Nat}(ht:HQ t m)(hm:m<=20000)(hex:∃z,(bd b).w<=(bd b).F z t):aU 188 [.agg (eR (ofQ ((bd b).E t)))] (I (sgn ((bd b).E t))):=by
 have h1:=PN hb (E3 hb ht hex) ht;rw[show(bd b).e (kP b t) t=(bd b).E t by rw[Bd.E,nX hb hex]]at h1;exact wN (ofQ ((bd b).E t)) (hx:=Vq.ofQ (h:=h1)) J
theorem vG {b:BR}(hb:b.Ok){t:Rat}{m:Nat}(ht:HQ t m)(hm:m<=20000)(hex:∃z,(bd b).w<=(bd b).F z t):aU 192 [.agg (eB b),.agg (eA ⟨ofQ (kP b t),ofQ t⟩)] (OP ((bd b).guess ((bd b).sg t) t)):=by
 have:=Hu b hb ⟨ofQ (kP b t),ofQ t⟩ (ha:=LP hb ht hex) J;rwa [<-nX hb hex]
def p2 (k:Nat):Rat:=((2^k:Nat):Int)
theorem rm (k:Nat):p2 (k+1)=p2 k+p2 k:=by
 rw[p2,p2,db,show((2^k*2:Nat):Int)=((2^k:Nat):Int)+((2^k:Nat):Int) by omega]
 push_cast
 rfl
theorem Co {k:Nat}:HQ (p2 k) (k/16+1):=by
 refine⟨ma ?_ J⟩;rw[gV,show(65536:Nat)=2^16 by decide,<-Nat.pow_mul];exact zQ Y J
theorem MQ {b:Bd}{n:Nat}{w:Rat}:b.dbl (-1) (n+1) w=if 0<b.E (-w) then b.dbl (-1) n (w+w) else some w:=by
 rw[Bd.dbl];have e:(-1:Rat)*w = -w:=bP;rw[e];by_cases h:0<b.E (-w)
 .rw[if_pos h,if_pos bP]
 .rw[if_neg h,if_neg bP]
theorem MR {b:Bd}{n:Nat}{w:Rat}:b.dbl 1 (n+1) w=if b.E w<0 then b.dbl 1 n (w+w) else some w:=by
 rw[Bd.dbl];have e:(1:Rat)*w=w:=bP;rw[e];by_cases h:b.E w<0
 .rw[if_pos h,if_pos bP]
 .rw[if_neg h,if_neg bP]
def Dy (N j:Nat)(t:Rat):Prop:=∃a:Int,t=(a:Rat)/((2^j:Nat):Int)/\a.natAbs<=2^(j+N)
theorem Mc (j:Nat):(((2^j:Nat):Int))≠0:=by have:=Nat.two_pow_pos j;omega
theorem Dy.hq {N j:Nat}{t:Rat}(h:Dy N j t):HQ t ((j+N)/16+1):=by
 obtain⟨a,rfl,ha⟩:=h;have key:2^(j+N)<65536^((j+N)/16+1):=by
  rw[show(65536:Nat)=2^16 by decide,<-Nat.pow_mul];exact zQ Y J
 have h2:2^j<=2^(j+N):=gu Y J;exact⟨lD (Mc j) J (by rw[gV];omega)⟩
theorem Dy.mid {N j:Nat}{lo hi:Rat}(h1:Dy N j lo)(h2:Dy N j hi):Dy N (j+1) ((lo+hi)/2):=by
 obtain⟨a,rfl,ha⟩:=h1;obtain⟨c,rfl,hc⟩:=h2;refine⟨a+c,?_,?_⟩
 .have e:(((2^(j+1):Nat):Int):Rat)=2*(((2^j:Nat):Int):Rat):=by
   rw[db,show((2^j*2:Nat):Int)=2*((2^j:Nat):Int) by omega];push_cast;rfl
  have hn:(((2^j:Nat):Int):Rat)≠0:=by have:=Mc j;exact_mod_cast this
  rw[e]
  push_cast
  generalize (((2^j:Nat):Int):Rat)=D0 at *
  grind
 .rw[show j+1+N=(j+N)+1 by omega,db];omega
theorem Dy.up {N j:Nat}{t:Rat}(h:Dy N j t):Dy N (j+1) t:=by
 have:=Dy.mid h h;rwa [show(t+t)/2=t by grind]at this
noncomputable def f3 (b:Bd):List Rat->Option (Rat × Rat)
 |[]=>none
 |t::r=>match b.at1 t with
  |some x=>some x
  |none=>f3 b r
theorem M7 (b:Bd)(lo hi:Rat):b.fst3 lo hi=f3 b [0,lo,hi]:=by
 rw[Bd.fst3,f3,f3,f3,f3];cases b.at1 0<;>cases b.at1 lo<;>cases b.at1 hi<;>rfl
theorem x9 (b:BR)(hb:b.Ok)(h40:∀t,(o8 b.l t).length<=54)(hS:∀t,SortC (o8 b.l t))(hex:∀t,∃z,(bd b).w<=(bd b).F z t){N:Nat}(hN:N<=150000){x:Rat × Rat}(hx:(bd b).eqQ N=some x):aU 120 [.agg (eB b)] (.agg (eA ⟨ofQ x.1,ofQ x.2⟩)):=by
 have w1:=cO 1 ⟨Y,Y⟩;have wm:=cO (-1) ⟨Y,Y⟩;rw[show(((1:Int):Int):Rat)=p2 0 from O]at w1;rw[show(((-1:Int):Int):Rat) = -p2 0 by rw[show p2 0=1 from O];rfl]at wm;rw[Bd.eqQ]at hx;obtain⟨Wl,hWl⟩:∃W,(bd b).dbl (-1) N 1=some W:=by
  cases h:(bd b).dbl (-1) N 1 with
  |none=>rw[h]at hx;cases hx
  |some W=>exact⟨W,rfl⟩
 obtain⟨Wh,hWh⟩:∃W,(bd b).dbl 1 N 1=some W:=by
  cases h:(bd b).dbl 1 N 1 with
  |none=>rw[hWl,h]at hx;cases hx
  |some W=>exact⟨W,rfl⟩
 rw[hWl,hWh]at hx;simp only at hx;have row:∀(t:Rat) (m:Nat),HQ t m->m<=20000->aU 190 [.agg (eB b),.agg (eR (ofQ t))] (.agg (eA ⟨ofQ (kP b t),ofQ t⟩))/\aU 189 [.agg (eB b),.agg (eA ⟨ofQ (kP b t),ofQ t⟩)] (.agg (eR (ofQ ((bd b).E t))))/\aU 188 [.agg (eR (ofQ ((bd b).E t)))] (I (sgn ((bd b).E t))):=fun t m ht hm =>
  ⟨CX b hb (h40 t) (hS t) (ofQ t) (ht:=Vq.ofQ (h:=ht)) J,BE hb ht hm (hex t),Iu hb ht hm (hex t)⟩
 refine aD Proofs.Tryz.func120 ?_;refine G w1 ?_;refine G wm ?_;refine G w1 ?_;refine H ?_;refine ai (fun k:Nat=>k<N/\(bd b).dbl (-1) (N-k) (p2 k)=some Wl) (fun k=>[(1,.ptr 1 1 0 0),(2,.ptr 2 1 0 0),(3,.ptr 3 1 0 0),(4,.ptr 4 1 0 0),(5,.ptr 5 1 0 0)])
  (fun k=>[(1,1,⟨128,6,[eB b],2⟩),(2,1,⟨43,8,[zN++zN],2⟩),(3,1,⟨41,4,[eR (ofQ (p2 k))],2⟩),(4,1,⟨41,4,[eR (ofQ (-p2 k))],2⟩),(5,1,⟨41,4,[eR (ofQ (p2 0))],2⟩)]) (fun k=>N-k) 0
  ⟨by
   rcases gc N with h|h;· subst h;cases hWl
   exact h,hWl⟩ ⟨O,O,O,O,O,O,O,O,O,O,bh⟩ ?_
 intro k s ⟨hk,hd⟩;obtain⟨j,hj⟩:∃j,N-k=j+1:=⟨N-k-1,J⟩;rw[hj,MQ]at hd;have hq:HQ (p2 k) 10000:=Co.mono J;have hqn:HQ (-p2 k) 10000:=@HQ.neg _ _ hq;obtain⟨r1,r2,r3⟩:=row (-p2 k) 10000 hqn Y;have hsg:=kO ((bd b).E (-p2 k));have n1:=eJ (ofQ (p2 k)) (ofQ (p2 k)) (hx:=Vq.ofQ (h:=hq)) (hy:=Vq.ofQ (h:=hq)) Y Y;rw[<-rm]at n1;have hq1:HQ (p2 (k+1)) 10000:=Co.mono J;have n2:=RH (ofQ (p2 (k+1))) (hx:=Vq.ofQ (h:=hq1)) Y;rw[<-rm]at hd;refine cX 7 [19,20,21,22,23,24,25] ?_;refine G r1 ?_;refine G r2 ?_;refine ax r3 ?_;refine D ?_ ?_<;>intro h
 .have h1:=hsg.1 (bk h);clear h;rw[if_pos h1]at hd;refine G n1 ?_;refine G n2 ?_;refine H ?_;have hk1:k+1<N:=by
   rcases bG (k+1) N with h|h
   .exact h
   .rw[show j=0 by omega]at hd;cases hd
  have hd1:(bd b).dbl (-1) (N-(k+1)) (p2 (k+1))=some Wl:=by rw[show N-(k+1)=j by omega];exact hd
  exact⟨k+1,⟨hk1,hd1⟩,J,ah⟩
 .have h1:¬0<(bd b).E (-p2 k):=fun h2=>(bS h) (hsg.2 h2);clear h;rw[if_neg h1]at hd;cases hd;clear hWl hj r1 r2 r3 hsg n1 n2 hq1;refine G w1 ?_;refine H ?_;refine ai (fun k':Nat=>k'<N/\(bd b).dbl 1 (N-k') (p2 k')=some Wh) (fun k'=>[(1,.ptr 1 1 0 0),(2,.ptr 2 1 0 0),(3,.ptr 3 1 0 0),(4,.ptr 4 1 0 0),(5,.ptr 5 1 0 0)])
   (fun k'=>[(1,1,⟨128,6,[eB b],2⟩),(2,1,⟨43,8,[zN++zN],2⟩),(3,1,⟨41,4,[eR (ofQ (p2 k'))],2⟩),(4,1,⟨41,4,[eR (ofQ (-p2 k))],2⟩),(5,1,⟨41,4,[eR (ofQ (p2 k'))],2⟩)]) (fun k'=>N-k') 0
   ⟨J,hWh⟩ ah ?_
  intro q s2 ⟨hk',hd⟩;obtain⟨j,hj⟩:∃j,N-q=j+1:=⟨N-q-1,J⟩;rw[hj,MR]at hd;have hqq:HQ (p2 q) 10000:=Co.mono J;obtain⟨r1,r2,r3⟩:=row (p2 q) 10000 hqq Y;have hsg:=eW ((bd b).E (p2 q));have n1:=eJ (ofQ (p2 q)) (ofQ (p2 q)) (hx:=Vq.ofQ (h:=hqq)) (hy:=Vq.ofQ (h:=hqq)) Y Y;rw[<-rm]at n1;rw[<-rm]at hd;refine cX 7 [32,33,34,35,36,37,38] ?_;refine G r1 ?_;refine G r2 ?_;refine ax r3 ?_;refine D ?_ ?_<;>intro h
  .have h1:=hsg.1 (bk h);clear h;rw[if_pos h1]at hd;refine G n1 ?_;refine H ?_;have hk1:q+1<N:=by
    rcases bG (q+1) N with h|h
    .exact h
    .rw[show j=0 by omega]at hd;cases hd
   have hd1:(bd b).dbl 1 (N-(q+1)) (p2 (q+1))=some Wh:=by rw[show N-(q+1)=j by omega];exact hd
   exact⟨q+1,⟨hk1,hd1⟩,J,ah⟩
  .have h1:¬(bd b).E (p2 q)<0:=fun h2=>(bS h) (hsg.2 h2);clear h;rw[if_neg h1]at hd;cases hd;clear hWh hj r1 r2 r3 hsg n1;have w0:=cO 0 ⟨Y,Y⟩;rw[show(((0:Int)):Rat)=0 from O]at w0;rw[M7]at hx;have hL:∀t∈[0,-p2 k,p2 q],HQ t 10000:=by
    intro t ht;simp at ht;rcases ht with rfl|rfl|rfl
    .exact HQ.zero.mono Y
    .exact hqn
    .exact hqq
   refine H ?_;refine bL [46] [3,4] aH ?_;refine G w0 ?_;refine H ?_;refine jQ O O O (bb 1 O O O O O O O O O O O ah O ⟨fU O,?_⟩);refine H ?_;have hrows:([0,-p2 k,p2 q]:List Rat).map (fun t=>eR (ofQ t))=[eR (ofQ 0),eR (ofQ (-p2 k)),eR (ofQ (p2 q))]:=O;refine aQ [(1,.ptr 1 1 0 0),(2,.ptr 2 1 0 0),(4,.ptr 4 1 0 0),(5,.ptr 5 1 0 0),(46,.als 46 ((s2.own 46).1+1) 0 3),(47,I 3),(48,I ((0:Nat):Int))]
    [(1,1,⟨128,6,[eB b],2⟩),(2,1,⟨43,8,[zN++zN],2⟩),(4,1,⟨41,4,[eR (ofQ (-p2 k))],2⟩),(5,1,⟨41,4,[eR (ofQ (p2 q))],2⟩),(46,(s2.own 46).1+1,⟨41,4,[eR (ofQ 0),eR (ofQ (-p2 k)),eR (ofQ (p2 q))],1⟩)]
    ah ?_
   generalize (s2.own 46).1+1=g;rw[<-hrows];intro s3;generalize hLL:([0,-p2 k,p2 q]:List Rat)=T3 at *
   have hT3:T3.length=3:=by rw[<-hLL];rfl
   refine ai (fun i:Nat=>i<=3/\(match f3 (bd b) (T3.drop i) with|some x=>some x|none=>(bd b).bis N (-p2 k) (p2 q))=some x) (fun i=>[(1,.ptr 1 1 0 0),(2,.ptr 2 1 0 0),(4,.ptr 4 1 0 0),(5,.ptr 5 1 0 0),(46,.als 46 g 0 3),(47,I 3),(48,I (i:Nat))])
    (fun i=>[(1,1,⟨128,6,[eB b],2⟩),(2,1,⟨43,8,[zN++zN],2⟩),(4,1,⟨41,4,[eR (ofQ (-p2 k))],2⟩),(5,1,⟨41,4,[eR (ofQ (p2 q))],2⟩),(46,g,⟨41,4,T3.map (fun t=>eR (ofQ t)),1⟩)]) (fun i=>3-i) 0
    ⟨aP _,hx⟩ ah ?_
   intro i s4 ⟨hi,hF⟩;refine D ?_ ?_<;>intro h
   .have hlt:i<3:=cw h;clear h;obtain⟨t,ht⟩:=ay (show i<T3.length by omega);have hrow:(T3.map (fun t=>eR (ofQ t)))[i]?=some (eR (ofQ t)):=by rw[bw,ht];rfl
    have htq:=hL t (bC ht);have hw:=dN i;obtain⟨r1,r2,r3⟩:=row t 10000 htq Y;have hgs:=vG hb htq Y (hex t);have hdr:f3 (bd b) (T3.drop i)=match (bd b).at1 t with|some x=>some x|none=>f3 (bd b) (T3.drop (i+1)):=by
     obtain⟨hl1,h2⟩:=cb ht;rw[jm hl1,h2,f3]
    rw[hdr,Bd.at1,<-nX hb (hex t)]at hF;rw[<-nX hb (hex t)]at hgs;refine H ?_;refine np O O O O O O O O O ?_;rw[be,aM i];refine ci O O (du O O O hrow O) ?_;refine G r1 ?_;refine G r2 ?_;refine ax r3 ?_;refine H ?_;have hs0:=gi ((bd b).E t);refine aV O ?_ ?_<;>intro h
    .have h1:=hs0.1 (bk h);clear h;rw[if_pos h1]at hF;simp only[bm]at hF;subst hF;exact cA
    .have h1:¬(bd b).E t=0:=fun h2=>(bS h) (hs0.2 h2);clear h;rw[if_neg h1]at hF;cases hgg:(bd b).guess (kP b t) t with
     |none =>
      rw[hgg]at hgs hF;simp only at hF;rw[OP]at hgs;refine G hgs ?_;refine H ?_;exact⟨i+1,⟨J,hF⟩,J,O,O,O,O,O,O,congrArg I hw,ah⟩
     |some y =>
      rw[hgg]at hgs hF;simp only[bm]at hF;subst hF;rw[OP]at hgs;refine G hgs ?_;exact cA
   .have hie:i=3:=co h;clear h;rw[hie,jn J,f3]at hF;simp only at hF;have hd0:Dy N 0 (-p2 k):=⟨-((2^k:Nat):Int),by rw[p2];push_cast;grind,by rw[Int.natAbs_neg,Int.natAbs_natCast];exact Nat.pow_le_pow_right Y J⟩;have hd1:Dy N 0 (p2 q):=⟨((2^q:Nat):Int),by rw[p2];push_cast;grind,by rw[Int.natAbs_natCast];exact Nat.pow_le_pow_right Y J⟩;have w2:=cO 2 ⟨Y,Y⟩;rw[show(((2:Int)):Rat)=2 from O]at w2;have v2:Vq (ofQ 2) 2 4:=Vq.ofQ (h:=HQ.two);refine H ?_;refine ai (fun u:Nat × Rat × Rat=>u.1<=N/\(bd b).bis (N-u.1) u.2.1 u.2.2=some x/\Dy N u.1 u.2.1/\Dy N u.1 u.2.2) (fun u=>[(1,.ptr 1 1 0 0),(2,.ptr 2 1 0 0),(4,.ptr 4 1 0 0),(5,.ptr 5 1 0 0)])
     (fun u=>[(1,1,⟨128,6,[eB b],2⟩),(2,1,⟨43,8,[zN++zN],2⟩),(4,1,⟨41,4,[eR (ofQ u.2.1)],2⟩),(5,1,⟨41,4,[eR (ofQ u.2.2)],2⟩)]) (fun u=>N-u.1) (0,-p2 k,p2 q)
     ⟨aP _,hF,hd0,hd1⟩ ah ?_
    rintro⟨j,lo,hi⟩ s5 ⟨hj,hB,hlo,hhi⟩;simp only at hj hB hlo hhi;dsimp only;obtain⟨n,hn⟩:∃n,N-j=n+1:=by
     rcases gc (N-j) with h|h
     .rw[h]at hB;cases hB
     .exact⟨N-j-1,J⟩
    rw[hn,Bd.bis]at hB;have hm:=hlo.mid hhi;have hl2:=hlo.up;have hh2:=hhi.up;have ql:=hlo.hq;have qh:=hhi.hq;have qm:=hm.hq;have a1:=eJ (ofQ lo) (ofQ hi) (hx:=Vq.ofQ (h:=ql)) (hy:=Vq.ofQ (h:=qh)) J J;have vs:Vq (ofQ (lo+hi)) (lo+hi) ((j+N)/16+1+((j+N)/16+1)+1):=Vq.ofQ (h:=@HQ.add _ _ _ _ ql qh);have a2:=Cl (ofQ (lo+hi)) (ofQ 2) (hx:=vs) (hy:=v2) J Y Y;obtain⟨r1,r2,r3⟩:=row ((lo+hi)/2) _ qm J;have hgs:=vG hb qm J (hex ((lo+hi)/2));rw[Bd.at1,<-nX hb (hex ((lo+hi)/2))]at hB;rw[<-nX hb (hex ((lo+hi)/2))]at hgs;generalize (lo+hi)/2=t at *
    have hs0:=gi ((bd b).E t);have hs1:=eW ((bd b).E t);refine G a1 ?_;refine G w2 ?_;refine G a2 ?_;refine G r1 ?_;refine G r2 ?_;refine ax r3 ?_;refine D ?_ ?_<;>intro h
    .have h1:=hs0.1 (bk h);clear h;rw[if_pos h1]at hB;simp only[bm]at hB;subst hB;exact cA
    .have h1:¬(bd b).E t=0:=fun h2=>(bS h) (hs0.2 h2);clear h;rw[if_neg h1]at hB;cases hgg:(bd b).guess (kP b t) t with
     |none =>
      rw[hgg]at hgs hB;simp only at hB;rw[OP]at hgs;refine G hgs ?_;refine D ?_ ?_<;>intro h
      .have h2:=hs1.1 (bk h);clear h;rw[if_pos h2]at hB;refine H ?_;exact⟨(j+1,t,hi),⟨by simp only;omega,by simp only;rw[show N-(j+1)=n by omega];exact hB,hm,hh2⟩,by simp only;omega,ah⟩
      .have h2:¬(bd b).E t<0:=fun h3=>(bS h) (hs1.2 h3);clear h;rw[if_neg h2]at hB;refine H ?_;exact⟨(j+1,lo,t),⟨by simp only;omega,by simp only;rw[show N-(j+1)=n by omega];exact hB,hl2,hm⟩,by simp only;omega,ah⟩
     |some y =>
      rw[hgg]at hgs hB;simp only[bm]at hB;subst hB;rw[OP]at hgs;refine G hgs ?_;exact cA
theorem Bs {l:List Int}{x:Int}(h:x∈l):x∈Lib.compact l:=by
 have key:∀n (hn:n<l.length),∃m,∃hm:m<l.length,l[m]=l[n]/\Lib.keeps l.toArray m=true:=by
  intro n
  induction n with
  |zero=>intro hn;exact⟨0,hn,rfl,by simp[Lib.keeps]⟩
  |succ n ih =>
   intro hn;by_cases he:l[n+1]=l[n]
   .obtain⟨m,hm,h1,h2⟩:=ih J;exact⟨m,hm,h1.trans he.symm,h2⟩
   .refine⟨n+1,hn,O,?_⟩;rw[Lib.keeps,decide_eq_true_eq];right;simp only[List.getElem!_toArray,iC];rw[getElem!_pos l (n+1) hn,getElem!_pos l n J];exact he
 obtain⟨n,hn,hx⟩:=List.mem_iff_getElem.1 h;obtain⟨m,hm,h1,h2⟩:=key n hn;rw[Lib.compact,Lib.compactUpTo];refine aW.2 ⟨m,Al.2 ⟨fP.2 hm,h2⟩,?_⟩;simp only[List.getElem!_toArray];rw[getElem!_pos l m hm,h1,hx]
theorem Ec {l:List SR}{s:SR}(h:s∈l):s.x∈dc l:=by
 rw[dc];refine Bs ?_;have:s.x∈l.map (·.x):=aW.2 ⟨s,h,O⟩;exact(List.mergeSort_perm _ _).mem_iff.2 this
def qp (b:BR):Prop:=p_ b iI=false/\∀r∈gj b.l,p_ b r=false
theorem wE {b:BR}{A B:Rat}:sD b A B=true↔nr b.l A B b.l.length/\aq (yT b.l A B) b.l.length<(b.w:Rat)*(A+B*b.a.val):=by
 rw[sD,@decide_eq_true_iff _ (Classical.propDecidable _)]
theorem Es {b:BR}{A B:Rat}(h:sD b A B=false):¬(nr b.l A B b.l.length/\aq (yT b.l A B) b.l.length<(b.w:Rat)*(A+B*b.a.val)):=by
 intro h1;rw[wE.2 h1]at h;cases h
theorem No:(ofQ ((1:Int):Rat)).val=1:=by rw[ofQ_val];rfl
theorem zero_val:(ofQ ((0:Int):Rat)).val=0:=by rw[ofQ_val];rfl
theorem pX {b:BR}(h:qp b):¬((∀i,i<(bd b).N->(bd b).lim i)/\aq (bd b).cap (bd b).N<(bd b).w):=by
 have h1:=Es h.1;rw[show iI.z.val=1 from No,show iI.t.val=0 from zero_val]at h1;intro⟨h2,h3⟩;refine h1 ⟨fun i hi _=>h2 i hi,?_⟩;have e:aq (yT b.l 1 0) b.l.length=aq (bd b).cap (bd b).N:=eX fun i hi=>by
  rw[yT,if_pos bP];show cI b.l i*(1+0*xI b.l i)=cI b.l i;grind
 rw[e];have h4:aq (bd b).cap (bd b).N<(b.w:Rat):=h3;grind
theorem Cb {b:BR}(hb:b.Ok)(h:qp b)(t:Rat):∃z,(bd b).Least z t :=
 ⟨_,sS hb (Bd.enough (mV hb) t (pX h))⟩
theorem HV {b:BR}(h:qp b):(bd b).NoTip:=by
 intro s hs i0 hi0 hl hlt;have hx:=Ec (bU (l:=b.l) hi0);have key:∀A B:Rat,(∀X:Rat,A+B*X=s*(X-(bd b).X i0))->sD b A B=true:=by
  intro A B hAB;refine wE.2 ⟨fun i hi hp=>hl i hi (by rw[hAB]at hp;exact hp),?_⟩;have e:aq (yT b.l A B) b.l.length=aq (fun i=>if 0<s*((bd b).X i-(bd b).X i0) then(bd b).cap i*(s*((bd b).X i-(bd b).X i0)) else 0) (bd b).N:=eX fun i hi=>by
   rw[yT,hAB];rfl
  rw[e,hAB];exact hlt
 rcases hs with rfl|rfl
 .have hm:Fu (b.l.getD i0 dS).x∈gj b.l/\xN (b.l.getD i0 dS).x∈gj b.l:=⟨jo _ (aW.2 ⟨_,hx,O⟩),jp _ (aW.2 ⟨_,hx,O⟩)⟩;have h1:=h.2 _ hm.2;rw[p_,xN]at h1;simp only[ofQ_val]at h1;rw[key _ _ (fun X=>by
   show((-(b.l.getD i0 dS).x:Int):Rat)+((1:Int):Rat)*X=1*(X-((b.l.getD i0 dS).x:Rat))
   push_cast;grind)]at h1
  cases h1
 .have hm:Fu (b.l.getD i0 dS).x∈gj b.l:=jo _ (aW.2 ⟨_,hx,O⟩);have h1:=h.2 _ hm;rw[p_,Fu]at h1;simp only[ofQ_val]at h1;rw[key _ _ (fun X=>by
   show((b.l.getD i0 dS).x:Rat)+((-1:Int):Rat)*X = -1*(X-((b.l.getD i0 dS).x:Rat))
   push_cast;grind)]at h1
  cases h1
theorem JL {b:BR}(hb:b.Ok){z t:Rat}{x:Rat × Rat}(h:(bd b).guess z t=some x):HQ x.1 20000/\HQ x.2 20000:=by
 have key:∀p,(bd b).Inc p z t->(bd b).tryP z t p=some x->HQ x.1 20000/\HQ x.2 20000:=by
  intro p hp h;rw[Bd.tryP]at h;split at h
  .cases h
  .rename_i d hd;split at h
   .cases h;exact Gj hb hp hd
   .cases h
 rw[Bd.guess]at h;split at h
 .rename_i y hy;cases h;exact key _ (JS hb z t) hy
 .exact key _ (OQ hb z t) h
theorem y6 {b:BR}(hb:b.Ok){t:Rat}{m:Nat}(ht:HQ t m)(hm:m<=19000)(hex:∃z,(bd b).w<=(bd b).F z t){x:Rat × Rat}(h:(bd b).at1 t=some x):HQ x.1 24000/\HQ x.2 20000:=by
 rw[Bd.at1]at h;split at h
 .cases h;rw[<-nX hb hex];exact⟨(E3 hb ht hex).mono J,ht.mono J⟩
 .have:=JL hb h;exact⟨this.1.mono J,this.2⟩
theorem PA {b:BR}(hb:b.Ok)(hex:∀t,∃z,(bd b).w<=(bd b).F z t){N:Nat}(hN:N<=150000){x:Rat × Rat}:∀(n j:Nat) (lo hi:Rat),n+j<=N->Dy N j lo->Dy N j hi->(bd b).bis n lo hi=some x->HQ x.1 24000/\HQ x.2 20000:=by
 intro n
 induction n with
 |zero=>intro j lo hi _ _ _ h;cases h
 |succ n ih =>
  intro j lo hi hj hlo hhi h;have hm:=hlo.mid hhi;rw[Bd.bis]at h;split at h
  .rename_i y hy;cases h;exact y6 hb hm.hq J (hex _) hy
  .split at h
   .exact ih (j+1) _ _ J hm hhi.up h
   .exact ih (j+1) _ _ J hlo.up hm h
theorem Fp (b:Bd)(s:Rat):∀(n k:Nat) (W:Rat),b.dbl s n (p2 k)=some W->∃m,m<n+k/\W=p2 m:=by
 intro n
 induction n with
 |zero=>intro k W h;cases h
 |succ n ih =>
  intro k W h;rw[Bd.dbl]at h;split at h
  .rw[<-rm]at h;obtain⟨m,h1,h2⟩:=ih (k+1) W h;exact⟨m,J,h2⟩
  .cases h;exact⟨k,J,O⟩
theorem Rw {b:BR}(hb:b.Ok)(hex:∀t,∃z,(bd b).w<=(bd b).F z t){x:Rat × Rat}(h:(bd b).eqQ 150000=some x):HQ x.1 24000/\HQ x.2 20000:=by
 generalize hN:(150000:Nat)=N at h;rw[Bd.eqQ]at h;split at h
 .rename_i wl wh h1 h2;obtain⟨k,hk,rfl⟩:=Fp _ _ _ 0 _ (show(bd b).dbl (-1) N (p2 0)=some wl from h1);obtain⟨q,hq,rfl⟩:=Fp _ _ _ 0 _ (show(bd b).dbl 1 N (p2 0)=some wh from h2);have hqk:HQ (p2 k) 10000:=Co.mono J;have hqq:HQ (p2 q) 10000:=Co.mono J;have hqn:HQ (-p2 k) 10000:=@HQ.neg _ _ hqk;split at h
  .rename_i y hy;cases h;rw[Bd.fst3]at hy;split at hy
   .rename_i z hz;cases hy;exact y6 hb HQ.zero Y (hex _) hz
   .split at hy
    .rename_i z hz;cases hy;exact y6 hb hqn Y (hex _) hz
    .exact y6 hb hqq Y (hex _) hy
  .refine PA hb hex (N:=N) (show N<=150000 by omega) N 0 _ _ J ?_ ?_ h
   .exact⟨-((2^k:Nat):Int),by rw[p2];push_cast;grind,by rw[Int.natAbs_neg,Int.natAbs_natCast];exact Nat.pow_le_pow_right Y J⟩
   .exact⟨((2^q:Nat):Int),by rw[p2];push_cast;grind,by rw[Int.natAbs_natCast];exact Nat.pow_le_pow_right Y J⟩
 .cases h
theorem OT (n:Nat):65536^n=2^(16*n):=by rw[show(65536:Nat)=2^16 by decide,<-Nat.pow_mul]
theorem Rv {b:BR}(hb:b.Ok)(hs:(bd b).SzT)(h:qp b):∃x,(bd b).eqQ 150000=some x/\(bd b).Bal x.1 x.2/\HQ x.1 24000/\HQ x.2 20000:=by
 have hex:∀t,∃z,(bd b).w<=(bd b).F z t:=fun t=>Bd.enough (mV hb) t (pX h);obtain⟨m,hm⟩:∃m,m=3000:=⟨_,O⟩;have hK:65536^3000=2^(16*m):=by rw[<-hm];exact OT m
 have hL:65536^(3000+3000+1)=2^(16*(m+m+1)):=by rw[<-hm];exact OT (m+m+1)
 obtain⟨x,h1,h2⟩:=Bd.eq_some (mV hb) hs (Cb hb h) (HV h) (n:=150000) hK hL J J;exact⟨x,h1,h2,Rw hb hex h1⟩
theorem Ff {b:BR}(hb:b.Ok){z t:Rat}(h:(bd b).Bal z t)(A B:Rat):sD b A B=false:=by
 cases hr:sD b A B with
 |false=>rfl
 |true =>
  obtain⟨h1,h2⟩:=wE.1 hr;have h3:=Bd.exclude (mV hb) h (A:=A) (B:=B) h1;have e:aq (yT b.l A B) b.l.length=aq (fun i=>if 0<A+B*(bd b).X i then(bd b).cap i*(A+B*(bd b).X i) else 0) (bd b).N:=O;rw[<-e]at h3;have h4:(b.w:Rat)*(A+B*b.a.val)<=aq (yT b.l A B) b.l.length:=h3;grind
theorem Hb {b:BR}(hb:b.Ok){z t:Rat}(h:(bd b).Bal z t):qp b:=⟨Ff hb h _ _,fun _ _=>Ff hb h _ _⟩
def Th (x:Int):SR:=⟨x,RR.zero,⟨[0],[ofQ ((2:Int):Rat)]⟩⟩
def Tf (x:Int):SR:=⟨x,RR.zero,⟨[0,10],[ofQ ((5:Int):Rat),ofQ ((0:Int):Rat)]⟩⟩
def b1:BR:=⟨40,ofQ ((25:Int):Rat),[Th 0,Th 100]⟩
def b2:BR:=⟨80,ofQ ((75:Int):Rat),[Tf 0,Tf 100]⟩
theorem pN {z:Int}(h:i64 z):(ofQ (z:Rat)).sz 12:=⟨bK (vI h).sz.1 Y,bK (vI h).sz.2 Y⟩
theorem xD (z:Int)(h:i64 z):hq (z:Rat) 4:=(@HQ.int z (aI h.1 h.2)).ok
def Rd (s:SR):Prop:=i64 s.x/\∀z∈s.k.S,i64 z
def Rc (l:List SR):Prop:=∀s∈l,Rd s
theorem RR.sz.mono {x:RR}{n m:Nat}(h:x.sz n)(hm:n<=m):x.sz m:=⟨bK h.1 hm,bK h.2 hm⟩
section
variable {α:Type}
theorem AY (P M S:List α)(x y:α):((P++x::(M++y::S)).set P.length y).set (P.length+1+M.length) x=P++y::(M++x::S):=by
 rw[qY _ _ (aY),iD,List.set_cons_zero,qY _ _ J,show P.length+1+M.length-P.length=M.length+1 by omega,List.set_cons_succ,qY _ _ (aY),iD,List.set_cons_zero]
theorem Ar (P M S:List α)(x y:α):(P++x::(M++y::S))[P.length]?=some x:=by
 rw[fc (aY),iD];rfl
theorem As (P M S:List α)(x y:α):(P++x::(M++y::S))[P.length+1+M.length]?=some y:=by
 rw[fc J,show P.length+1+M.length-P.length=M.length+1 by omega,tX,fc (aY),iD];rfl
def Dg (P X M Y0 S:List α)(k:Nat):List α:=P++Y0.take k++X.drop k++M++X.take k++Y0.drop k++S
theorem mS {l:List α}{k:Nat}{x:α}(hx:l[k]?=some x):l.take (k+1)=l.take k++[x]:=by rw[q_,hx];rfl
theorem jk {l:List α}{k:Nat}{x:α}(hx:l[k]?=some x):l.drop k=x::l.drop (k+1):=by
 obtain⟨hl,e⟩:=cb hx;rw[jm hl,e]
theorem E7 {P X M Y0 S:List α}{k:Nat}{x y:α}(hx:X[k]?=some x)(hy:Y0[k]?=some y):Dg P X M Y0 S k=(P++Y0.take k)++x::((X.drop (k+1)++M++X.take k)++y::(Y0.drop (k+1)++S)):=by
 rw[Dg,jk hx,jk hy];simp[bg]
theorem LY {P X M Y0 S:List α}{k:Nat}{x y:α}(hx:X[k]?=some x)(hy:Y0[k]?=some y):Dg P X M Y0 S (k+1)=(P++Y0.take k)++y::((X.drop (k+1)++M++X.take k)++x::(Y0.drop (k+1)++S)):=by
 rw[Dg,mS hx,mS hy];simp[bg]
theorem LZ (P X M Y0 S:List α):Dg P X M Y0 S 0=P++X++M++Y0++S:=by simp[Dg]
theorem N7 {P X M Y0 S:List α}(h:X.length=Y0.length):Dg P X M Y0 S X.length=P++Y0++M++X++S:=by
 rw[Dg,bI,gX,h,bI,gX];simp[bg]
theorem N8 {P X M Y0 S:List α}{k:Nat}{x y:α}(hx:X[k]?=some x)(hy:Y0[k]?=some y):(Dg P X M Y0 S k)[P.length+k]?=some x:=by
 have hk:k<Y0.length:=(cb hy).1;have h:=Ar (P++Y0.take k) (X.drop (k+1)++M++X.take k) (Y0.drop (k+1)++S) x y;rw[E7 hx hy];rwa [show(P++Y0.take k).length=P.length+k by simp;omega]at h
theorem Sl {P X M Y0:List α}{k:Nat}(hx:k<X.length)(hy:k<Y0.length):(P++Y0.take k).length+1+(X.drop (k+1)++M++X.take k).length=P.length+X.length+M.length+k:=by simp;omega
theorem N_ {P X M Y0 S:List α}{k:Nat}{x y:α}(hx:X[k]?=some x)(hy:Y0[k]?=some y):(Dg P X M Y0 S k)[P.length+X.length+M.length+k]?=some y:=by
 have h:=As (P++Y0.take k) (X.drop (k+1)++M++X.take k) (Y0.drop (k+1)++S) x y;rw[E7 hx hy];rwa [Sl (cb hx).1 (cb hy).1]at h
theorem N9 {P X M Y0 S:List α}{k:Nat}{x y:α}(hx:X[k]?=some x)(hy:Y0[k]?=some y):((Dg P X M Y0 S k).set (P.length+k) y).set (P.length+X.length+M.length+k) x=Dg P X M Y0 S (k+1):=by
 have hk:k<Y0.length:=(cb hy).1;have h:=AY (P++Y0.take k) (X.drop (k+1)++M++X.take k) (Y0.drop (k+1)++S) x y;rw[LY hx hy,<-h,E7 hx hy,Sl (cb hx).1 hk,show(P++Y0.take k).length=P.length+k by simp;omega]
variable {key:α->Rat}
def jR (key:α->Rat)(l:List α):Prop:=l.Pairwise fun x y=>key x<=key y
theorem rF {l:List α}{t:Nat}{v:α}(h:jR key l)(hv:l[t]?=some v):∀y∈l.drop t,key v<=key y:=by
 have h2:jR key (l.drop t):=List.Pairwise.sublist (z_ t l) h;rw[jk hv]at h2 ⊢;intro y hy;rcases bV.1 hy with rfl|hy
 .exact eP
 .exact(jq.1 h2).1 y hy
theorem rG {l:List α}{t:Nat}{v:α}(h:jR key l)(hv:l[t]?=some v):∀y∈l.take (t+1),key y<=key v:=by
 have h2:jR key (l.take (t+1)):=List.Pairwise.sublist (ug (t+1) l) h;rw[mS hv]at h2 ⊢;intro y hy;rcases dJ.1 hy with hy|hy
 .exact(mu.1 h2).2.2 y hy v (List.mem_singleton_self _)
 .rw[mC.1 hy];exact eP
def Mq (key:α->Rat)(A B:List α):Prop:=∀x∈A,∀y∈B,key x<=key y
theorem MA {U V:List α}(hU:jR key U)(hV:jR key V){s t:Nat}(h:s=0\/t=V.length\/∃s' u v,s=s'+1/\U[s']?=some u/\V[t]?=some v/\key u<=key v):Mq key (U.take s) (V.drop t):=by
 intro x hx y hy;rcases h with rfl|rfl|⟨s',u,v,rfl,hu,hv,huv⟩
 .simp at hx
 .simp at hy
 .have h1:=rG hU hu x hx;have h2:=rF hV hv y hy;grind
theorem uK {A B:List α}(hA:jR key A)(hB:jR key B)(h:Mq key A B):jR key (A++B):=mu.2 ⟨hA,hB,h⟩
theorem nW {l:List α}(h:jR key l)(n:Nat):jR key (l.take n):=List.Pairwise.sublist (ug n l) h
theorem nU {l:List α}(h:jR key l)(n:Nat):jR key (l.drop n):=List.Pairwise.sublist (z_ n l) h
theorem Ap {U V W1 W2:List α}(hU:jR key U)(hV:jR key V){s t:Nat}(c1:Mq key (U.take s) (V.drop t))(c2:Mq key (V.take t) (U.drop s))(p1:W1.Perm (U.take s++V.take t))(p2:W2.Perm (U.drop s++V.drop t))(s1:jR key W1)(s2:jR key W2) :
  jR key (W1++W2)/\(W1++W2).Perm (U++V):=by
 have b1:Mq key (U.take s) (U.drop s):=by
  have h:=hU;rw[<-ef s U]at h;exact(mu.1 h).2.2
 have b2:Mq key (V.take t) (V.drop t):=by
  have h:=hV;rw[<-ef t V]at h;exact(mu.1 h).2.2
 refine⟨uK s1 s2 fun x hx y hy=>?_,?_⟩
 .have hx:=dJ.1 (p1.mem_iff.1 hx);have hy:=dJ.1 (p2.mem_iff.1 hy);rcases hx with hx|hx<;>rcases hy with hy|hy
  .exact b1 x hx y hy
  .exact c1 x hx y hy
  .exact c2 x hx y hy
  .exact b2 x hx y hy
 .refine(p1.append p2).trans ?_;have e:U++V=U.take s++(U.drop s++V):=by rw[<-bg,ef]
  rw[e,bg];refine List.Perm.append_left _ ?_;have e2:U.drop s++V=U.drop s++(V.take t++V.drop t):=by rw[ef]
  rw[e2,<-bg,<-bg];exact List.Perm.append_right _ List.perm_append_comm
theorem yg {V:List α}(hV:jR key V){u:α}{t:Nat}(c1:∀y∈V.take t,key y<=key u)(c2:∀y∈V.drop t,key u<=key y):jR key (V.take t++u::V.drop t):=by
 have b2:Mq key (V.take t) (V.drop t):=by
  have h:=hV;rw[<-ef t V]at h;exact(mu.1 h).2.2
 refine uK (nW hV t) (jq.2 ⟨c2,nU hV t⟩) fun x hx y hy=>?_;rcases bV.1 hy with rfl|hy
 .exact c1 x hx
 .exact b2 x hx y hy
theorem Ck (V:List α)(u:α)(t:Nat):(V.take t++u::V.drop t).Perm (u::V):=by
 refine Ag.trans ?_;rw[ef]
end
theorem E8 {K:St->Prop}{s:St}{d g N Q:Nat}{x y z n c:Operand}{tys:Array TypeId}{ty:TypeId}{pos:String}{af:Array Edge}(P X M Y0 S:List BN)(hXY:X.length=Y0.length)(hN:N=(P++X++M++Y0++S).length)(hN1:N<=1000)(hQ:Q=P.length+X.length+M.length)
  (hx:s.ev x=.als 5 g 0 N) (hy:s.ev y=I P.length) (hz:s.ev z=I Q) (hn:s.ev n=I X.length) (hc:s.ev c=.clo 302 [])
  (ho:FitO s [(5,g,⟨320,8,(P++X++M++Y0++S).map cM,1⟩)])
  (hK:∀s1:St,K (({ reg:=s.reg,own:=(s1.over [] [(5,g,⟨320,8,(P++Y0++M++X++S).map cM,1⟩)]).own }:St).putR d (.tup []))) :
  Sm Tryz.prog lay.get s ⟨some d,.call ⟨.value (.func 320),#[x,y,z,n,c],tys⟩,ty,pos,af,none⟩ K:=by
 refine cz layOk O O Tryz.func320 O Y O O ?_;show PWP _ _ _ _ (bB s (([x,y,z,n,c]:List Operand).map s.ev++[]));rw[show(([x,y,z,n,c]:List Operand).map s.ev++([]:List PV))=[.als 5 g 0 N,I P.length,I Q,I X.length,.clo 302 []] by simp[hx,hy,hz,hn,hc]];rw[show bB s [.als 5 g 0 N,I P.length,I Q,I X.length,.clo 302 []]=bB (s.over [] [(5,g,⟨320,8,(P++X++M++Y0++S).map cM,1⟩)]) [.als 5 g 0 N,I P.length,I Q,I X.length,.clo 302 []] by rw[Fit.over (l:=[]) ho]];have hlen:N=P.length+X.length+M.length+Y0.length+S.length:=by rw[hN];simp;omega
 refine H ?_;refine ai (fun k=>k<=X.length) (fun k=>[(0,.als 5 g 0 N),(1,I P.length),(2,I Q),(3,I X.length),(10,I (k:Nat))])
  (fun k=>[(5,g,⟨320,8,(Dg P X M Y0 S k).map cM,1⟩)]) (fun k=>X.length-k) 0 (aP _) ⟨O,O,O,O,O,by rw[LZ];rfl,bh⟩ ?_
 intro k s1 hk;refine D ?_ ?_<;>intro h
 .have hlt:k<X.length:=cw h;clear h;obtain⟨p,hp⟩:=ay hlt;obtain⟨q,hq⟩:=ay (show k<Y0.length by omega);have hw1:IntKind.i64.wrap (((P.length:Nat):Int)+(k:Nat))=((P.length+k:Nat):Int):=by rw[wrap_i64 J J];omega
  have hw2:IntKind.i64.wrap (((Q:Nat):Int)+(k:Nat))=((Q+k:Nat):Int):=by rw[wrap_i64 J J];omega
  have hw:=dN k;have hr1:((Dg P X M Y0 S k).map cM)[P.length+k]?=some (cM p):=by rw[bw,N8 hp hq];rfl
  have hr2:((Dg P X M Y0 S k).map cM)[Q+k]?=some (cM q):=by rw[bw,hQ,N_ hp hq];rfl
  refine H ?_;refine kq [] [5] 21 [21,22,23] [4,5,6,7] aH aH ?_;refine H ?_;rw[hw1,hw2];refine np O O O O O O O O O ?_;rw[be,aM (Q+k)];refine ci O O (du O O O hr2 O) ?_;refine H ?_;rw[hw1];refine np O O O O O O O O O ?_;rw[be,aM (P.length+k)];refine ci O O (du O O O hr1 O) ?_;refine H ?_;refine np O O O O O O O O O ?_;rw[be,aM (P.length+k)];refine H ?_;refine jQ O O O (cP (kd':=1) O O O hr1 O O ah O O O O ⟨nb O,?_⟩);refine np O O O O O O O O O ?_;rw[be,aM (Q+k)];refine jQ O O O (cP (kd':=1) O O O (row:=cM q) (by
   show(((Dg P X M Y0 S k).map cM).set (P.length+k) _)[Q+k]? = _
   rw[et J];exact hr2) O O ah O O O O ⟨nb O,?_⟩)
  refine H ?_;refine⟨k+1,hlt,J,O,O,O,O,congrArg I hw,?_,bh⟩;refine Eq.trans (b:=(g,some (Cont.mk 320 8 ((((Dg P X M Y0 S k).map cM).set (P.length+k) (cM q)).set (Q+k) (cM p)) 1))) O ?_;rw[<-gY,<-gY,hQ,N9 hp hq]
 .have hge:k=X.length:=co h;clear h;rw[hge,N7 hXY];refine H ?_;exact dR O (hK s1)
def OE (P U V S:List BN)(q:List BN × List BN × List BN × List BN):Prop:=q.2.1≠[]/\q.2.2.1≠[]/\q.1.length+q.2.1.length=P.length+U.length/\q.1++q.2.2.1++q.2.1++q.2.2.2=P++V++U++S
def Ih (q:List BN × List BN × List BN × List BN):List BN:=q.1++q.2.1++q.2.2.1++q.2.2.2
theorem K7 {P U V S:List BN}{q:List BN × List BN × List BN × List BN}(h:OE P U V S q):(Ih q).length=(P++U++V++S).length:=by
 have:=congrArg List.length h.2.2.2;simp only[Ih,bQ]at *
 omega
theorem QD {K:St->Prop}{s:St}{d g N:Nat}{x y z n c:Operand}{tys:Array TypeId}{ty:TypeId}{pos:String}{af:Array Edge}(P U V S:List BN)(hU:U≠[])(hV:V≠[])(hN:N=(P++U++V++S).length)(hN1:N<=1000)
  (hx:s.ev x=.als 5 g 0 N) (hy:s.ev y=I P.length) (hz:s.ev z=I (P.length+U.length:Nat)) (hn:s.ev n=I (P.length+U.length+V.length:Nat)) (hc:s.ev c=.clo 302 [])
  (ho:FitO s [(5,g,⟨320,8,(P++U++V++S).map cM,1⟩)])
  (hK:∀s1:St,K (({ reg:=s.reg,own:=(s1.over [] [(5,g,⟨320,8,(P++V++U++S).map cM,1⟩)]).own }:St).putR d (.tup []))) :
  Sm Tryz.prog lay.get s ⟨some d,.call ⟨.value (.func 319),#[x,y,z,n,c],tys⟩,ty,pos,af,none⟩ K:=by
 have hlen:N=P.length+U.length+V.length+S.length:=by rw[hN];simp;omega
 generalize hm:P.length+U.length=m at *
 refine cz layOk O O Tryz.func319 O Y O O ?_;show PWP _ _ _ _ (bB s (([x,y,z,n,c]:List Operand).map s.ev++[]));rw[show(([x,y,z,n,c]:List Operand).map s.ev++([]:List PV))=[.als 5 g 0 N,I P.length,I m,I (m+V.length:Nat),.clo 302 []] by simp[hx,hy,hz,hn,hc]];rw[show bB s [.als 5 g 0 N,I P.length,I m,I (m+V.length:Nat),.clo 302 []]=bB (s.over [] [(5,g,⟨320,8,(P++U++V++S).map cM,1⟩)]) [.als 5 g 0 N,I P.length,I m,I (m+V.length:Nat),.clo 302 []] by rw[Fit.over (l:=[]) ho]];have hwa:IntKind.i64.wrap (((m:Nat):Int)-(P.length:Nat))=(U.length:Nat):=by rw[wrap_i64 J J];omega
 have hwb:IntKind.i64.wrap (((m+V.length:Nat):Int)-(m:Nat))=(V.length:Nat):=by rw[wrap_i64 J J];omega
 refine H ?_;rw[hwa];refine H ?_;rw[hwb];refine ai (OE P U V S) (fun q=>[(0,.als 5 g 0 N),(2,I m),(4,.clo 302 []),(10,I q.2.1.length),(11,I q.2.2.1.length)])
  (fun q=>[(5,g,⟨320,8,(Ih q).map cM,1⟩)]) (fun q=>q.2.1.length+q.2.2.1.length) (P,U,V,S) ⟨hU,hV,O,O⟩ ah ?_
 rintro⟨A,X,Y0,B⟩ s1 hq;have hql:=K7 hq;obtain⟨hX,hY,hAm,heq⟩:=hq;simp only at hX hY hAm heq;have hX0:0<X.length:=oy.2 hX;have hY0:0<Y0.length:=oy.2 hY;rw[hm]at hAm;simp only[Ih]at hql;rw[<-hN]at hql;have hql2:N=A.length+X.length+Y0.length+B.length:=by rw[<-hql];simp;omega
 dsimp only[Ih];refine D ?_ ?_<;>intro h
 .have hne:X.length≠Y0.length:=by
   intro e;simp[e]at h
  clear h;refine D ?_ ?_<;>intro h
  .have hgt:Y0.length<X.length:=cw h;clear h;have hw1:IntKind.i64.wrap (((m:Nat):Int)-(X.length:Nat))=(A.length:Nat):=by rw[wrap_i64 J J];omega
   have hw2:IntKind.i64.wrap (((X.length:Nat):Int)-(Y0.length:Nat))=((X.drop Y0.length).length:Nat):=by rw[wrap_i64 J J,gW];omega
   have htl:(X.take Y0.length).length=Y0.length:=by rw[bc];omega
   have hsp:A++X++Y0++B=A++X.take Y0.length++X.drop Y0.length++Y0++B:=by
    rw[bg A (X.take _),ef]
   have hmQ:m=A.length+(X.take Y0.length).length+(X.drop Y0.length).length:=by rw[htl,gW];omega
   rw[hsp]
   (refine cV 4 ?_;refine aR 7 ?_)
   refine H ?_;refine br O (E8 (N:=N) (Q:=m) A (X.take Y0.length) (X.drop Y0.length) Y0 B htl (by rw[<-hsp];exact hql.symm) hN1 hmQ O (congrArg I hw1) O (by rw[htl];rfl) O ⟨O,bh⟩ fun s2=>?_);refine aT ?_;refine H ?_;refine⟨(A++Y0,X.drop Y0.length,X.take Y0.length,B),⟨?_,?_,?_,?_⟩,?_,O,O,O,congrArg I hw2,by rw[htl];rfl,O,bh⟩
   .intro e;have:=congrArg List.length e;rw[gW]at this;simp at this;omega
   .intro e;have e2:(X.take Y0.length).length=0:=by rw[show X.take Y0.length=[] from e];rfl
    omega
   .have hd:(X.drop Y0.length).length=X.length-Y0.length:=gW;show(A++Y0).length+(X.drop Y0.length).length=P.length+U.length;rw[bQ,hd,hm];omega
   .simp only;rw[<-heq];have e:X.take Y0.length++X.drop Y0.length=X:=ef _ _
    calc A++Y0++X.take Y0.length++X.drop Y0.length++B=A++Y0++(X.take Y0.length++X.drop Y0.length)++B:=by simp[bg]
     _=A++Y0++X++B:=by rw[e]
   .have hd:(X.drop Y0.length).length=X.length-Y0.length:=gW;show(X.drop Y0.length).length+(X.take Y0.length).length<X.length+Y0.length;omega
  .have hlt:X.length<Y0.length:=co h;clear h;obtain⟨w,hw⟩:∃w,w=Y0.length-X.length:=⟨_,O⟩;have hw1:IntKind.i64.wrap (((m:Nat):Int)-(X.length:Nat))=(A.length:Nat):=by rw[wrap_i64 J J];omega
   have hw3:IntKind.i64.wrap (((m:Nat):Int)+(Y0.length:Nat))=((m+Y0.length:Nat):Int):=by rw[wrap_i64 J J];omega
   have hw4:IntKind.i64.wrap (((m+Y0.length:Nat):Int)-(X.length:Nat))=((m+w:Nat):Int):=by rw[wrap_i64 J J];omega
   have htl:(Y0.take w).length=w:=by rw[bc];omega
   have hdl:(Y0.drop w).length=X.length:=by rw[gW];omega
   have hw2:IntKind.i64.wrap (((Y0.length:Nat):Int)-(X.length:Nat))=((Y0.take w).length:Nat):=by rw[wrap_i64 J J,htl];omega
   have hsp:A++X++Y0++B=A++X++Y0.take w++Y0.drop w++B:=by
    rw[bg (A++X) (Y0.take _),ef]
   rw[hsp]
   (refine cV 6 ?_;refine aR 11 ?_)
   refine H ?_;rw[hw3];refine H ?_;refine br O (E8 (N:=N) (Q:=m+w) A X (Y0.take w) (Y0.drop w) B hdl.symm (by rw[<-hsp];exact hql.symm) hN1 (by rw[htl];omega) O (congrArg I hw1) (congrArg I hw4) O O ⟨O,bh⟩ fun s2=>?_);refine aT ?_;refine H ?_;refine⟨(A,Y0.drop w,Y0.take w,X++B),⟨?_,?_,?_,?_⟩,?_,O,O,O,by rw[hdl];rfl,congrArg I hw2,?_,bh⟩
   .intro e;have e2:(Y0.drop w).length=0:=by rw[show Y0.drop w=[] from e];rfl
    omega
   .intro e;have e2:(Y0.take w).length=0:=by rw[show Y0.take w=[] from e];rfl
    omega
   .show A.length+(Y0.drop w).length=P.length+U.length;rw[hdl,hm];omega
   .simp only;rw[<-heq];have e:Y0.take w++Y0.drop w=Y0:=ef _ _
    calc A++Y0.take w++Y0.drop w++(X++B)=A++(Y0.take w++Y0.drop w)++X++B:=by simp[bg]
     _=A++Y0++X++B:=by rw[e]
   .show(Y0.drop w).length+(Y0.take w).length<X.length+Y0.length;omega
   .dsimp only[Ih];rw[show A++Y0.drop w++Y0.take w++(X++B)=A++Y0.drop w++Y0.take w++X++B by simp[bg]];rfl
 .have he:X.length=Y0.length:=by
   have h2:((X.length:Nat):Int)=((Y0.length:Nat):Int):=by simpa using h
   omega
  clear h;have hw1:IntKind.i64.wrap (((m:Nat):Int)-(X.length:Nat))=(A.length:Nat):=by rw[wrap_i64 J J];omega
  have hsp:A++X++Y0++B=A++X++[]++Y0++B:=ap;rw[hsp]
  (refine cV 8 ?_;refine aR 7 ?_)
  refine H ?_;refine br O (E8 (N:=N) (Q:=m) A X [] Y0 B he (by rw[<-hsp];exact hql.symm) hN1 aS O (congrArg I hw1) O O O ⟨O,bh⟩ fun s2=>?_);refine aT ?_;refine H ?_;rw[show A++Y0++[]++X++B=P++V++U++S by rw[cu];exact heq];exact dR O (hK s2)
section
variable {α:Type}{key:α->Rat}
def fG (key:α->Rat)(c:Rat)(l:List α):List α:=l.filter fun x=>decide (key x=c)
theorem bW (c:Rat)(A B:List α):fG key c (A++B)=fG key c A++fG key c B:=List.filter_append ..
theorem iJ {c:Rat}{a:α}(l:List α)(h:key a=c):fG key c (a::l)=a::fG key c l:=List.filter_cons_of_pos (by simpa using h)
theorem kX {c:Rat}{a:α}(l:List α)(h:key a≠c):fG key c (a::l)=fG key c l:=List.filter_cons_of_neg (by simpa using h)
theorem ir {c:Rat}{a:α}{l:List α}:a∈fG key c l↔a∈l/\key a=c:=by rw[fG,Al,decide_eq_true_eq]
theorem JA:∀ {A B:List α},jR key A->jR key B->(∀c,fG key c A=fG key c B)->A=B
 |[],[],_,_,_=>rfl
 |[],b::B,_,_,h=>by
  have:b∈fG key (key b) ([]:List α):=by rw[h];exact ir.2 ⟨ez ..,O⟩
  cases this
 |a::A,[],_,_,h=>by
  have:a∈fG key (key a) ([]:List α):=by rw[<-h];exact ir.2 ⟨ez ..,O⟩
  cases this
 |a::A,b::B,hA,hB,h=>by
  obtain⟨a1,a2⟩:=jq.1 hA;obtain⟨b1,b2⟩:=jq.1 hB;have ha:a∈b::B:=(ir.1 (by rw[<-h];exact ir.2 ⟨ez ..,O⟩:a∈fG key (key a) (b::B))).1;have hb:b∈a::A:=(ir.1 (by rw[h];exact ir.2 ⟨ez ..,O⟩:b∈fG key (key b) (a::A))).1;have k1:key b<=key a:=by
   rcases bV.1 ha with e|e
   .rw[e];exact eP
   .exact b1 a e
  have k2:key a<=key b:=by
   rcases bV.1 hb with e|e
   .rw[e];exact eP
   .exact a1 b e
  have hk:key b=key a:=Rat.le_antisymm k1 k2;have h0:=h (key a);rw[iJ _ O,iJ _ hk]at h0;have hab:a=b:=(List.cons.inj h0).1;subst hab;congr 1;refine JA a2 b2 fun c=>?_;have hc:=h c;by_cases e:key a=c
  .rw[iJ _ e,iJ _ e]at hc;exact(List.cons.inj hc).2
  .rwa [kX _ e,kX _ e]at hc
def Ra (key:α->Rat)(A B:List α):Prop:=∀x∈A,∀y∈B,key x<key y
theorem M4 {A B:List α}(h:Ra key A B)(c:Rat):fG key c A=[]\/fG key c B=[]:=by
 rcases dL (fG key c A=[]) with e|e
 .exact .inl e
 .refine .inr (FQ.2 fun y hy=>?_);obtain⟨x,hx⟩:=FX _ e;obtain⟨hx1,hx2⟩:=ir.1 hx;obtain⟨hy1,hy2⟩:=ir.1 hy;have:=h x hx1 y hy1;rw[hx2,hy2]at this;exact absurd this (Rat.lt_irrefl)
theorem vC {A B:List α}(h:Ra key A B)(c:Rat):fG key c (A++B)=fG key c (B++A):=by
 rw[bW,bW];rcases M4 h c with e|e<;>rw[e]<;>simp
theorem DW {U V W1 W2:List α}{s t:Nat}(c2:Ra key (V.take t) (U.drop s))(p1:∀c,fG key c W1=fG key c (U.take s++V.take t))(p2:∀c,fG key c W2=fG key c (U.drop s++V.drop t))(c:Rat):fG key c (W1++W2)=fG key c (U++V):=by
 have h:=vC c2 c;rw[bW,bW]at h;have eU:fG key c U=fG key c (U.take s)++fG key c (U.drop s):=by rw[<-bW,ef]
 have eV:fG key c V=fG key c (V.take t)++fG key c (V.drop t):=by rw[<-bW,ef]
 rw[bW,p1,p2,bW,bW,bW,eU,eV,bg,<-bg (fG key c (V.take t)),h];simp only[bg]
end
variable {α:Type}{key:α->Rat}
theorem JC {c:Rat}{l:List α}(h:∀x∈l,key x≠c):fG key c l=[]:=FQ.2 fun x hx=>h x (ir.1 hx).1 (ir.1 hx).2
theorem JV (l:List α)(x:α)(c:Rat):fG key c (kw key l x)=fG key c (l++[x]):=by
 obtain⟨h1,h2⟩:=ss key l x l.length (aY);rw[kw,cD,tG];generalize oY key l x l.length=k at *
 have e:fG key c l=fG key c (l.take k)++fG key c (l.drop k):=by rw[<-bW,ef]
 rw[bW,bW,e];by_cases hx:key x=c
 .have hd:fG key c (l.drop k)=[]:=JC fun y hy hyc=>by
   obtain⟨q,hq⟩:=i5.1 hy;rw[dF]at hq;have:=h2 (k+q) y J (cb hq).1 hq;rw[hx,hyc]at this;exact absurd this Rat.lt_irrefl
  rw[iJ _ hx,hd,iJ _ hx];simp[fG]
 .rw[kX _ hx,kX _ hx];simp[fG]
theorem sQ (l:List α)(c:Rat):fG key c (b_ key l)=fG key c l:=by
 have:∀(l acc:List α),fG key c (l.foldl (kw key) acc)=fG key c (acc++l):=by
  intro l
  induction l with
  |nil=>intro acc;rw[cu];rfl
  |cons x l ih =>
   intro acc;rw[fB,ih,bW,JV,bW,bW,show x::l=[x]++l from O,bW];simp only[bg]
 have h:=this l [];rwa [k9]at h
theorem IC {W l:List α}(hs:jR key W)(hf:∀c,fG key c W=fG key c l):W=b_ key l :=
 JA hs (jb key l) fun c=>by rw[hf,sQ]
end Go.Pv
set_option maxHeartbeats 2000000
namespace Go.Pv
attribute [local irreducible] PWP POps PQuiet PSem aE aw aj ak
open Go.Proofs
theorem SG {P U V S:List BN}{i:Nat}{u:BN}(h:U[i]?=some u):((P++U++V++S).map cM)[P.length+i]?=some (cM u):=by
 have hi:=(cb h).1;rw[bw,bg,bg,fc J,show P.length+i-P.length=i by omega,fN J,h];rfl
theorem SH {P U V S:List BN}{i:Nat}{v:BN}(h:V[i]?=some v):((P++U++V++S).map cM)[P.length+U.length+i]?=some (cM v):=by
 have hi:=(cb h).1;rw[bw,bg,fc (by rw[bQ];omega),show P.length+U.length+i-(P++U).length=i by rw[bQ];omega,fN J,h];rfl
theorem Gc (X Y0:Nat)(h:X+Y0<=4000):IntKind.i64.wrap (IntKind.u64.wrap (IntKind.i64.wrap (((X:Nat):Int)+((Y0:Nat):Int)))/2^Int.toNat 1)=(((X+Y0)/2:Nat):Int):=by
 rw[wrap_i64 (n:=((X:Nat):Int)+((Y0:Nat):Int)) J J,wrap_u64 J J,show((2:Int)^Int.toNat 1)=2 by decide,wrap_i64 J J];omega
theorem KA {V:List BN}{u:BN}{t:Nat}(h:∀y∈V.take t,cG y<cG u)(c:Rat):fG cG c (V.take t++u::V.drop t)=fG cG c ([u]++V):=by
 have e:V.take t++u::V.drop t=(V.take t++[u])++V.drop t:=ap;rw[e,bW,vC (fun x hx y hy=>by rw[mC.1 hy];exact h x hx),<-bW,bg,ef]
theorem KB {U:List BN}{v:BN}{t:Nat}(h:∀y∈U.drop t,cG v<cG y)(c:Rat):fG cG c (U.take t++v::U.drop t)=fG cG c (U++[v]):=by
 have e:U.take t++v::U.drop t=U.take t++([v]++U.drop t):=ap;rw[e,bW,vC (fun x hx y hy=>by rw[mC.1 hx];exact h y hy),<-bW,<-bg,ef]
def ke (P V:List BN)(u:BN)(S:List BN)(r:Nat):List BN:=P++(V.take r++u::V.drop r)++S
theorem uJ {P V S:List BN}{u v:BN}{r:Nat}(h:V[r]?=some v):ke P V u S r=(P++V.take r)++u::([]++v::(V.drop (r+1)++S)):=by
 rw[ke,jk h];simp[bg]
theorem oK {P V S:List BN}{u v:BN}{r:Nat}(h:V[r]?=some v):ke P V u S (r+1)=(P++V.take r)++v::([]++u::(V.drop (r+1)++S)):=by
 rw[ke,mS h];simp[bg]
theorem CN {P V S:List BN}{u v:BN}{r:Nat}(h:V[r]?=some v):((ke P V u S r).map cM)[P.length+r]?=some (cM u):=by
 have hr:=(cb h).1;have e:=Ar (P++V.take r) [] (V.drop (r+1)++S) u v;rw[show(P++V.take r).length=P.length+r by simp;omega,<-uJ h]at e;rw[bw,e];rfl
theorem CO {P V S:List BN}{u v:BN}{r:Nat}(h:V[r]?=some v):((ke P V u S r).map cM)[P.length+r+1]?=some (cM v):=by
 have hr:=(cb h).1;have e:=As (P++V.take r) [] (V.drop (r+1)++S) u v;rw[show(P++V.take r).length=P.length+r by simp;omega,<-uJ h]at e;rw[bw,show P.length+r+1=P.length+r+1+([]:List BN).length from O,e];rfl
theorem K_ {P V S:List BN}{u v:BN}{r:Nat}(h:V[r]?=some v):((ke P V u S r).set (P.length+r) v).set (P.length+r+1) u=ke P V u S (r+1):=by
 have hr:=(cb h).1;have e:=AY (P++V.take r) [] (V.drop (r+1)++S) u v;rw[show(P++V.take r).length=P.length+r by simp;omega,<-uJ h,<-oK h]at e;exact e
theorem EC {P V S:List BN}{u v:BN}{r:Nat}(h:V[r]?=some v):((ke P V u S (r+1)).set (P.length+r+1) v).set (P.length+r) u=ke P V u S r:=by
 have hr:=(cb h).1;have e:=AY (P++V.take r) [] (V.drop (r+1)++S) v u;rw[show(P++V.take r).length=P.length+r by simp;omega,<-uJ h,<-oK h]at e;rw[List.set_comm _ _ J];exact e
theorem yI {P V S:List BN}{u v:BN}{r:Nat}(h:V[r]?=some v):((ke P V u S (r+1)).map cM)[P.length+r]?=some (cM v):=by
 have hr:=(cb h).1;have e:=Ar (P++V.take r) [] (V.drop (r+1)++S) v u;rw[show(P++V.take r).length=P.length+r by simp;omega,<-oK h]at e;rw[bw,e];rfl
theorem yJ {P V S:List BN}{u v:BN}{r:Nat}(h:V[r]?=some v):((ke P V u S (r+1)).map cM)[P.length+r+1]?=some (cM u):=by
 have hr:=(cb h).1;have e:=As (P++V.take r) [] (V.drop (r+1)++S) v u;rw[show(P++V.take r).length=P.length+r by simp;omega,<-oK h]at e;rw[bw,show P.length+r+1=P.length+r+1+([]:List BN).length from O,e];rfl
theorem BQ {L:dj}{fn:Func}{K:St->PV->Prop}{s:St}(h:fn.results.toList=[])(hk:K s (.tup [])):ak L fn K .ret s:=by
 unfold ak;exact⟨[],True,by rw[h];rfl,trivial,hk⟩
theorem Oa {K:St->Prop}{s:St}{d g N:Nat}{x y z n c:Operand}{tys:Array TypeId}{ty:TypeId}{pos:String}{af:Array Edge}(P:List BN)(u:BN)(V S:List BN)(hV:jR cG V)(hs:∀p∈u::V,p.at'.sz 7000000)(hN:N=(P++[u]++V++S).length)(hN1:N<=1000)
  (hx:s.ev x=.als 5 g 0 N) (hy:s.ev y=I P.length) (hz:s.ev z=I (P.length+1:Nat)) (hn:s.ev n=I (P.length+1+V.length:Nat)) (hc:s.ev c=.clo 302 [])
  (ho:FitO s [(5,g,⟨320,8,(P++[u]++V++S).map cM,1⟩)])
  (hK:∀(s1:St) (W:List BN),W.Perm ([u]++V)->(∀c,fG cG c W=fG cG c ([u]++V))->jR cG W->K (({ reg:=s.reg,own:=(s1.over [] [(5,g,⟨320,8,(P++W++S).map cM,1⟩)]).own }:St).putR d (.tup []))) :
  Sm Tryz.prog lay.get s ⟨some d,.call ⟨.value (.func 318),#[x,y,z,n,c],tys⟩,ty,pos,af,none⟩ K:=by
 have hlen:N=P.length+1+V.length+S.length:=by rw[hN];simp;omega
 generalize hm:P.length+1=m at *
 refine cz layOk O O Tryz.func318 O Y O O ?_;show PWP _ _ _ _ (bB s (([x,y,z,n,c]:List Operand).map s.ev++[]));rw[show(([x,y,z,n,c]:List Operand).map s.ev++([]:List PV))=[.als 5 g 0 N,I P.length,I m,I (m+V.length:Nat),.clo 302 []] by simp[hx,hy,hz,hn,hc]];rw[show bB s [.als 5 g 0 N,I P.length,I m,I (m+V.length:Nat),.clo 302 []]=bB (s.over [] [(5,g,⟨320,8,(P++[u]++V++S).map cM,1⟩)]) [.als 5 g 0 N,I P.length,I m,I (m+V.length:Nat),.clo 302 []] by rw[Fit.over (l:=[]) ho]];have hwa:IntKind.i64.wrap (((m:Nat):Int)-(P.length:Nat))=1:=by rw[wrap_i64 J J];omega
 refine H ?_;rw[hwa];refine H ?_;refine ai (fun q:Nat × Nat=>q.1<=q.2/\q.2<=V.length/\(∀v∈V.take q.1,cG v<cG u)/\(∀v∈V.drop q.2,cG u<=cG v)) (fun q=>[(0,.als 5 g 0 N),(1,I P.length),(4,.clo 302 []),(10,I (m+q.1:Nat)),(11,I (m+q.2:Nat))])
  (fun q=>[(5,g,⟨320,8,(P++[u]++V++S).map cM,1⟩)]) (fun q=>q.2-q.1) (0,V.length) ⟨aP _,aY,ap,ap⟩ ah ?_
 rintro⟨p,q⟩ s1 ⟨hpq,hqV,h1,h2⟩;simp only at hpq hqV h1 h2;dsimp only;refine D ?_ ?_<;>intro h
 .have hlt:p<q:=cw h;clear h;obtain⟨f,hf⟩:∃f,f=(p+q)/2:=⟨_,O⟩;obtain⟨v,hv⟩:=ay (show f<V.length by omega);have hmid:IntKind.i64.wrap (IntKind.u64.wrap (IntKind.i64.wrap (((m+p:Nat):Int)+((m+q:Nat):Int)))/2^Int.toNat 1)=((m+f:Nat):Int):=by
   rw[Gc _ _ J];omega
  have hr1:((P++[u]++V++S).map cM)[m+f]?=some (cM v):=by rw[<-hm];exact SH (U:=[u]) hv
  have hr2:((P++[u]++V++S).map cM)[P.length]?=some (cM u):=SG (U:=[u]) (i:=0) O;have hw:IntKind.i64.wrap (((m+f:Nat):Int)+1)=((m+(f+1):Nat):Int):=by rw[wrap_i64 J J];omega
  refine H ?_;rw[hmid];refine mN 11 [40,41,42,43,44,45,46,47,48,49,50] aH ?_;refine H ?_;refine np O O O O O O O O O ?_;rw[be,aM (m+f)];refine ci O O (du O O O hr1 O) ?_;refine H ?_;refine np O O O O O O O O O ?_;rw[be,aM P.length];refine ci O O (du O O O hr2 O) ?_;refine H ?_;refine ci O O (uE O (ny (hs v (ff _ (bC hv))) (hs u (ez ..))) O ah O O) ?_;refine D ?_ ?_<;>intro h
  .have hb:=h;have hlt2:cG v<cG u:=by have:=(eW _).1 (bk hb);grind
   clear hb h;refine H ?_;refine⟨(f+1,q),⟨by simp only;omega,hqV,fun y hy=>?_,h2⟩,by simp only;omega,O,O,O,congrArg I hw,ah⟩;have:=rG hV hv y hy;grind
  .have hb:=h;have hge2:cG u<=cG v:=by
    have h9:=bS hb;rw[eW]at h9;grind
   clear hb h;refine H ?_;refine⟨(p,f),⟨by simp only;omega,by simp only;omega,h1,fun y hy=>?_⟩,by simp only;omega,ah⟩;have:=rF hV hv y hy;grind
 .have he:p=q:=co h;clear h;subst he;have hwp:IntKind.i64.wrap (((m+p:Nat):Int)-1)=((P.length+p:Nat):Int):=by rw[wrap_i64 J J];omega
  have hr0:P++[u]++V++S=ke P V u S 0:=by rw[ke];simp
  refine H ?_;refine ai (fun r=>r<=p) (fun r=>[(0,.als 5 g 0 N),(10,I (m+p:Nat)),(13,I (P.length+r:Nat))]) (fun r=>[(5,g,⟨320,8,(ke P V u S r).map cM,1⟩)]) (fun r=>p-r) 0 (aP _) ⟨O,O,O,by rw[<-hr0];rfl,bh⟩ ?_;intro r s2 hr;refine H ?_;rw[hwp];refine aV O ?_ ?_<;>intro h
  .have hrp:r<p:=cw h;clear h;obtain⟨v,hv⟩:=ay (show r<V.length by omega);have hw:IntKind.i64.wrap (((P.length+r:Nat):Int)+1)=((P.length+r+1:Nat):Int):=by rw[wrap_i64 J J];omega
   refine H ?_;refine kq [] [5] 15 [15,16,17] [2,3,4] aH aH ?_;refine H ?_;rw[hw];refine np O O O O O O O O O ?_;rw[be,aM (P.length+r+1)];refine ci O O (du O O O (CO hv) O) ?_;refine H ?_;refine np O O O O O O O O O ?_;rw[be,aM (P.length+r)];refine ci O O (du O O O (CN hv) O) ?_;refine H ?_;refine np O O O O O O O O O ?_;rw[be,aM (P.length+r)];refine H ?_;refine jQ O O O (cP (kd':=1) O O O (CN hv) O O ah O O O O ⟨nb O,?_⟩);refine np O O O O O O O O O ?_;rw[be,aM (P.length+r+1)];refine jQ O O O (cP (kd':=1) O O O (row:=cM v) (by
    show(((ke P V u S r).map cM).set (P.length+r) _)[P.length+r+1]? = _
    rw[et J];exact CO hv) O O ah O O O O ⟨nb O,?_⟩)
   refine H ?_;refine⟨r+1,hrp,J,O,O,congrArg I hw,?_,bh⟩;refine Eq.trans (b:=(g,some (Cont.mk 320 8 ((((ke P V u S r).map cM).set (P.length+r) (cM v)).set (P.length+r+1) (cM u)) 1))) O ?_;rw[<-gY,<-gY,K_ hv]
  .have hrp:r=p:=co h;clear h;subst hrp;have hm2:=yg hV (fun y hy=>iu (h1 y hy)) h2;have hp2:=Ck V u r;rw[ke];refine H ?_;exact BQ O (hK s2 _ hp2 (KA h1) hm2)
theorem Ob {K:St->Prop}{s:St}{d g N:Nat}{x y z n c:Operand}{tys:Array TypeId}{ty:TypeId}{pos:String}{af:Array Edge}(P U:List BN)(v:BN)(S:List BN)(hU1:U.length≠1)(hU:jR cG U)(hs:∀p∈v::U,p.at'.sz 7000000)(hN:N=(P++U++[v]++S).length)(hN1:N<=1000)
  (hx:s.ev x=.als 5 g 0 N) (hy:s.ev y=I P.length) (hz:s.ev z=I (P.length+U.length:Nat)) (hn:s.ev n=I (P.length+U.length+1:Nat)) (hc:s.ev c=.clo 302 [])
  (ho:FitO s [(5,g,⟨320,8,(P++U++[v]++S).map cM,1⟩)])
  (hK:∀(s1:St) (W:List BN),W.Perm (U++[v])->(∀c,fG cG c W=fG cG c (U++[v]))->jR cG W->K (({ reg:=s.reg,own:=(s1.over [] [(5,g,⟨320,8,(P++W++S).map cM,1⟩)]).own }:St).putR d (.tup []))) :
  Sm Tryz.prog lay.get s ⟨some d,.call ⟨.value (.func 318),#[x,y,z,n,c],tys⟩,ty,pos,af,none⟩ K:=by
 have hlen:N=P.length+U.length+1+S.length:=by rw[hN];simp;omega
 obtain⟨m,hm⟩:∃m,m=P.length+U.length:=⟨_,O⟩;rw[<-hm]at hz hn hlen;refine cz layOk O O Tryz.func318 O Y O O ?_;show PWP _ _ _ _ (bB s (([x,y,z,n,c]:List Operand).map s.ev++[]));rw[show(([x,y,z,n,c]:List Operand).map s.ev++([]:List PV))=[.als 5 g 0 N,I P.length,I m,I (m+1:Nat),.clo 302 []] by simp[hx,hy,hz,hn,hc]];rw[show bB s [.als 5 g 0 N,I P.length,I m,I (m+1:Nat),.clo 302 []]=bB (s.over [] [(5,g,⟨320,8,(P++U++[v]++S).map cM,1⟩)]) [.als 5 g 0 N,I P.length,I m,I (m+1:Nat),.clo 302 []] by rw[Fit.over (l:=[]) ho]];have hwa:IntKind.i64.wrap (((m:Nat):Int)-(P.length:Nat))=(U.length:Nat):=by rw[wrap_i64 J J];omega
 have hwb:IntKind.i64.wrap (((m+1:Nat):Int)-(m:Nat))=1:=by rw[wrap_i64 J J];omega
 refine H ?_;rw[hwa];refine aV O ?_ ?_<;>intro h
 .have:=bk h;omega
 clear h;refine H ?_;rw[hwb];refine H ?_;refine ai (fun q:Nat × Nat=>q.1<=q.2/\q.2<=U.length/\(∀y∈U.take q.1,cG y<=cG v)/\(∀y∈U.drop q.2,cG v<cG y)) (fun q=>[(0,.als 5 g 0 N),(2,I m),(4,.clo 302 []),(14,I (P.length+q.1:Nat)),(15,I (P.length+q.2:Nat))])
  (fun q=>[(5,g,⟨320,8,(P++U++[v]++S).map cM,1⟩)]) (fun q=>q.2-q.1) (0,U.length) ⟨aP _,aY,ap,ap⟩ ⟨O,O,O,O,by rw[hm];rfl,O,bh⟩ ?_
 rintro⟨p,q⟩ s1 ⟨hpq,hqV,h1,h2⟩;simp only at hpq hqV h1 h2;dsimp only;refine D ?_ ?_<;>intro h
 .have hlt:p<q:=cw h;clear h;obtain⟨f,hf⟩:∃f,f=(p+q)/2:=⟨_,O⟩;obtain⟨u,hu⟩:=ay (show f<U.length by omega);have hmid:IntKind.i64.wrap (IntKind.u64.wrap (IntKind.i64.wrap (((P.length+p:Nat):Int)+((P.length+q:Nat):Int)))/2^Int.toNat 1)=((P.length+f:Nat):Int):=by
   rw[Gc _ _ J];omega
  have hr1:((P++U++[v]++S).map cM)[P.length+f]?=some (cM u):=SG hu;have hr2:((P++U++[v]++S).map cM)[m]?=some (cM v):=by rw[hm];exact SH (V:=[v]) (i:=0) O
  have hw:IntKind.i64.wrap (((P.length+f:Nat):Int)+1)=((P.length+(f+1):Nat):Int):=by rw[wrap_i64 J J];omega
  refine H ?_;rw[hmid];refine mN 12 [92,93,94,95,96,97,98,99,100,101,102,103] aH ?_;refine H ?_;refine np O O O O O O O O O ?_;rw[be,aM m];refine ci O O (du O O O hr2 O) ?_;refine H ?_;refine np O O O O O O O O O ?_;rw[be,aM (P.length+f)];refine ci O O (du O O O hr1 O) ?_;refine H ?_;refine ci O O (uE O (ny (hs v (ez ..)) (hs u (ff _ (bC hu)))) O ah O O) ?_;refine D ?_ ?_<;>intro h
  .have hge2:cG u<=cG v:=by
    have h9:¬sgn (cG v-cG u)<0:=by simpa using h
    rw[eW]at h9;grind
   clear h;refine H ?_;refine⟨(f+1,q),⟨by simp only;omega,hqV,fun y hy=>?_,h2⟩,by simp only;omega,O,O,O,congrArg I hw,ah⟩;have:=rG hU hu y hy;grind
  .have hlt2:cG v<cG u:=by
    have h9:sgn (cG v-cG u)<0:=by simpa using h
    have:=(eW _).1 h9;grind
   clear h;refine H ?_;refine⟨(p,f),⟨by simp only;omega,by simp only;omega,h1,fun y hy=>?_⟩,by simp only;omega,ah⟩;have:=rF hU hu y hy;grind
 .have he:p=q:=co h;clear h;subst he;have hr0:P++U++[v]++S=ke P U v S U.length:=by rw[ke,bI,gX];simp
  refine H ?_;refine ai (fun r=>p<=r/\r<=U.length) (fun r=>[(0,.als 5 g 0 N),(14,I (P.length+p:Nat)),(17,I (P.length+r:Nat))]) (fun r=>[(5,g,⟨320,8,(ke P U v S r).map cM,1⟩)]) (fun r=>r) U.length ⟨hqV,aY⟩ ⟨O,O,by rw[<-hm];rfl,by rw[<-hr0];rfl,bh⟩ ?_;intro r' s2 ⟨hr,hrU⟩;refine D ?_ ?_<;>intro h
  .have hrp:p<r':=cw h;clear h;obtain⟨r,rfl⟩:∃r,r'=r+1:=⟨r'-1,J⟩;obtain⟨u,hu⟩:=ay (show r<U.length by omega);have hw:IntKind.i64.wrap (((P.length+(r+1):Nat):Int)-1)=((P.length+r:Nat):Int):=by rw[wrap_i64 J J];omega
   refine H ?_;refine kq [] [5] 15 [15,16,17] [2,3,4] aH aH ?_;refine H ?_;rw[hw];refine np O O O O O O O O O ?_;rw[be,aM (P.length+r)];refine ci O O (du O O O (yI hu) O) ?_;refine H ?_;refine np O O O O O O O O O ?_;rw[be,aM (P.length+(r+1))];refine ci O O (du O O O (yJ hu) O) ?_;refine H ?_;refine np O O O O O O O O O ?_;rw[be,aM (P.length+(r+1))];refine H ?_;refine jQ O O O (cP (kd':=1) O O O (yJ hu) O O ah O O O O ⟨nb O,?_⟩);refine np O O O O O O O O O ?_;rw[be,aM (P.length+r)];refine jQ O O O (cP (kd':=1) O O O (row:=cM u) (by
    show(((ke P U v S (r+1)).map cM).set (P.length+(r+1)) _)[P.length+r]? = _
    rw[et J];exact yI hu) O O ah O O O O ⟨nb O,?_⟩)
   refine H ?_;refine⟨r,⟨J,J⟩,J,O,O,congrArg I hw,?_,bh⟩;refine Eq.trans (b:=(g,some (Cont.mk 320 8 ((((ke P U v S (r+1)).map cM).set (P.length+r+1) (cM u)).set (P.length+r) (cM v)) 1))) O ?_;rw[<-gY,<-gY,EC hu]
  .have hrp:r'=p:=co h;clear h;subst hrp;have hm2:=yg hU h1 (fun y hy=>iu (h2 y hy));have hp2:=(Ck U v r').trans (List.perm_append_comm (l₁:=[v]) (l₂:=U));rw[ke];refine H ?_;exact BQ O (hK s2 _ hp2 (KB h2) hm2)
theorem CA {P:Program}{L:dj}{Q:Exit->St->Prop}{s:St}{ι:Type}{x y:Code}(X:ι->Prop)(regs:ι->List (Nat × PV))(owns:ι->List (Nat × Nat × Cont))(h1:PWP P L x (aE (fun s'=>∃i,X i/\Fit s' (regs i) (owns i)) Q) s)(h2:∀i,X i->∀s:St,PWP P L y Q (s.over (regs i) (owns i))):PWP P L x (aE (fun s'=>PWP P L y Q s') Q) s:=by
 refine PWP.mono ?_ _ h1;intro e s' h;unfold aE at h ⊢;cases e
 case normal =>
  obtain⟨i,hX,hF⟩:∃i,X i/\Fit s' (regs i) (owns i):=h;have:=h2 i hX s';rwa [Fit.over hF]at this
 all_goals exact h
theorem Ou {F:St->Prop}{Q:Exit->St->Prop}{s:St}:aE F Q .normal s=F s:=by unfold aE;rfl
theorem rO {F:St->Prop}{Q:Exit->St->Prop}{e:Exit}{s:St}(h:e ≠ .normal):aE F Q e s=Q e s:=by
 unfold aE;cases e<;>first|rfl|exact absurd O h
theorem Gx {P:Program}{L:dj}{Q:Exit->St->Prop}{s:St}{ι:Type}{x1 x2 y:Code}(X:ι->Prop)(regs:ι->List (Nat × PV))(owns:ι->List (Nat × Nat × Cont))(h1:PWP P L x1 (aE (fun s'=>PWP P L x2 (aE (fun s'=>∃i,X i/\Fit s' (regs i) (owns i)) Q) s') (aE (fun s'=>∃i,X i/\Fit s' (regs i) (owns i)) Q)) s)(h2:∀i,X i->∀s:St,PWP P L y Q (s.over (regs i) (owns i))):PWP P L x1 (aE (fun s'=>PWP P L x2 (aE (fun s'=>PWP P L y Q s') Q) s') (aE (fun s'=>PWP P L y Q s') Q)) s:=by
 refine PWP.mono (fun e s' h=>?_) _ h1;by_cases he:e=.normal
 .subst he;rw[Ou]at h ⊢;exact CA X regs owns h h2
 .rw[rO he,rO he]at h;rw[rO he,rO he];exact h
def SB (U V:List BN)(a m n lo c:Nat):Prop:=c=lo\/∃s' u v,c=a+s'+1/\U[s']?=some u/\V[n-c-m]?=some v/\cG u<=cG v
def SC (U V:List BN)(a m n hi c:Nat):Prop:=c=hi\/∃t' v u,n=c+m+t'+1/\V[t']?=some v/\U[c-a]?=some u/\cG v<cG u
theorem MB {U V:List BN}(hU:jR cG U)(hV:jR cG V){s t:Nat}(h:s=0\/t=V.length\/∃s' u v,s=s'+1/\U[s']?=some u/\V[t]?=some v/\cG u<cG v):Ra cG (U.take s) (V.drop t):=by
 intro x hx y hy;rcases h with rfl|rfl|⟨s',u,v,rfl,hu,hv,huv⟩
 .simp at hx
 .simp at hy
 .have h1:=rG hU hu x hx;have h2:=rF hV hv y hy;grind
theorem Oc {w:Nat} (ih:∀ {K:St->Prop} {s:St} {d g N:Nat} {x y z n c:Operand} {tys:Array TypeId} {ty:TypeId} {pos:String} {af:Array Edge} (P U V S:List BN),U.length+V.length<=w->U≠[]->V≠[]->jR cG U->jR cG V->(∀p∈U++V,p.at'.sz 7000000)->N=(P++U++V++S).length->N<=1000 ->
  s.ev x=.als 5 g 0 N->s.ev y=I P.length->s.ev z=I (P.length+U.length:Nat)->s.ev n=I (P.length+U.length+V.length:Nat)->s.ev c=.clo 302 []->FitO s [(5,g,⟨320,8,(P++U++V++S).map cM,1⟩)] ->
  (∀(s1:St) (W:List BN),W.Perm (U++V)->(∀c,fG cG c W=fG cG c (U++V))->jR cG W->K (({ reg:=s.reg,own:=(s1.over [] [(5,g,⟨320,8,(P++W++S).map cM,1⟩)]).own }:St).putR d (.tup []))) ->
  Sm Tryz.prog lay.get s ⟨some d,.call ⟨.value (.func 318),#[x,y,z,n,c],tys⟩,ty,pos,af,none⟩ K)
  {K:St->Prop} {s:St} {d g N:Nat} {x y z n c:Operand} {tys:Array TypeId} {ty:TypeId} {pos:String} {af:Array Edge} (P U V S:List BN) (hw:U.length+V.length<=w+1) (hU2:2<=U.length) (hV2:2<=V.length) (hU:jR cG U) (hV:jR cG V) (hs:∀p∈U++V,p.at'.sz 7000000) (hN:N=(P++U++V++S).length) (hN1:N<=1000)
  (hx:s.ev x=.als 5 g 0 N) (hy:s.ev y=I P.length) (hz:s.ev z=I (P.length+U.length:Nat)) (hn:s.ev n=I (P.length+U.length+V.length:Nat)) (hc:s.ev c=.clo 302 [])
  (ho:FitO s [(5,g,⟨320,8,(P++U++V++S).map cM,1⟩)])
  (hK:∀(s1:St) (W:List BN),W.Perm (U++V)->(∀c,fG cG c W=fG cG c (U++V))->jR cG W->K (({ reg:=s.reg,own:=(s1.over [] [(5,g,⟨320,8,(P++W++S).map cM,1⟩)]).own }:St).putR d (.tup []))) :
  Sm Tryz.prog lay.get s ⟨some d,.call ⟨.value (.func 318),#[x,y,z,n,c],tys⟩,ty,pos,af,none⟩ K:=by
 have hlen:N=P.length+U.length+V.length+S.length:=by rw[hN];simp;omega
 obtain⟨m,hm⟩:∃m,m=P.length+U.length:=⟨_,O⟩;obtain⟨b,hb⟩:∃b,b=m+V.length:=⟨_,O⟩;rw[<-hm]at hz hn hlen;rw[<-hb]at hn;refine cz layOk O O Tryz.func318 O Y O O ?_;show PWP _ _ _ _ (bB s (([x,y,z,n,c]:List Operand).map s.ev++[]));rw[show(([x,y,z,n,c]:List Operand).map s.ev++([]:List PV))=[.als 5 g 0 N,I P.length,I m,I b,.clo 302 []] by simp[hx,hy,hz,hn,hc]];rw[show bB s [.als 5 g 0 N,I P.length,I m,I b,.clo 302 []]=bB (s.over [] [(5,g,⟨320,8,(P++U++V++S).map cM,1⟩)]) [.als 5 g 0 N,I P.length,I m,I b,.clo 302 []] by rw[Fit.over (l:=[]) ho]];have hwa:IntKind.i64.wrap (((m:Nat):Int)-(P.length:Nat))=(U.length:Nat):=by rw[wrap_i64 J J];omega
 have hwb:IntKind.i64.wrap (((b:Nat):Int)-(m:Nat))=(V.length:Nat):=by rw[wrap_i64 J J];omega
 obtain⟨D0,hD⟩:∃D0,D0=(P.length+b)/2:=⟨_,O⟩;have hmid:IntKind.i64.wrap (IntKind.u64.wrap (IntKind.i64.wrap (((P.length:Nat):Int)+((b:Nat):Int)))/2^Int.toNat 1)=((D0:Nat):Int):=by rw[Gc _ _ J,hD]
 have hnn:IntKind.i64.wrap (((D0:Nat):Int)+(m:Nat))=((D0+m:Nat):Int):=by rw[wrap_i64 J J];omega
 have hpp:IntKind.i64.wrap (((D0+m:Nat):Int)-1)=((D0+m-1:Nat):Int):=by rw[wrap_i64 J J];omega
 refine H ?_;rw[hwa];refine aV O ?_ ?_<;>intro h
 .have:=bk h;omega
 clear h;refine H ?_;rw[hwb];refine aV O ?_ ?_<;>intro h
 .have:=bk h;omega
 clear h;refine H ?_;rw[hmid];refine H ?_;rw[hnn];refine CA (fun q:Nat × Nat=>P.length<=q.1/\q.1<=q.2/\q.2<=m/\q.2<=D0/\D0+m<=q.1+b/\(q.1=P.length\/q.1+b=D0+m)/\(q.2=D0\/q.2=m)) (fun q=>[(0,.als 5 g 0 N),(1,I P.length),(2,I m),(3,I b),(4,.clo 302 []),(18,I D0),(19,I (D0+m:Nat)),(20,I (q.1:Nat)),(21,I (q.2:Nat))]) (fun _=>[(5,g,⟨320,8,(P++U++V++S).map cM,1⟩)]) ?_ ?_
 .refine aV O ?_ ?_<;>intro h
  .have hgt:D0<m:=cw h;clear h;have hnb:IntKind.i64.wrap (((D0+m:Nat):Int)-(b:Nat))=((D0+m-b:Nat):Int):=by rw[wrap_i64 J J];omega
   refine H ?_;exact⟨(D0+m-b,D0),⟨by simp only;omega,by simp only;omega,by simp only;omega,by simp only;omega,by simp only;omega,.inr (by simp only;omega),.inl O⟩,O,O,O,O,O,O,O,congrArg I hnb,ah⟩
  .have hle:m<=D0:=co h;clear h;refine H ?_;exact⟨(P.length,m),⟨by simp only;omega,by simp only;omega,by simp only;omega,by simp only;omega,by simp only;omega,.inl O,.inr O⟩,ah⟩
 rintro⟨lo,hi⟩ ⟨q1,q2,q3,q4,q5,q6,q7⟩ s1;simp only at q1 q2 q3 q4 q5 q6 q7;dsimp only;refine H ?_;rw[hpp];refine ai (fun q:Nat × Nat=>lo<=q.1/\q.1<=q.2/\q.2<=hi/\SB U V P.length m (D0+m) lo q.1/\SC U V P.length m (D0+m) hi q.2) (fun q=>[(0,.als 5 g 0 N),(1,I P.length),(2,I m),(3,I b),(4,.clo 302 []),(18,I D0),(19,I (D0+m:Nat)),(20,I (q.1:Nat)),(21,I (q.2:Nat)),(22,I (D0+m-1:Nat))])
  (fun _=>[(5,g,⟨320,8,(P++U++V++S).map cM,1⟩)]) (fun q=>q.2-q.1) (lo,hi) ⟨aY,q2,aY,.inl O,.inl O⟩ ah ?_
 rintro⟨st,rr⟩ s2 ⟨l1,l2,l3,hA,hB⟩;simp only at l1 l2 l3 hA hB;dsimp only;refine D ?_ ?_<;>intro h
 .have hlt:st<rr:=cw h;clear h;obtain⟨f,hf⟩:∃f,f=(st+rr)/2:=⟨_,O⟩;obtain⟨u,hu⟩:=ay (show f-P.length<U.length by omega);obtain⟨v,hv⟩:=ay (show D0-1-f<V.length by omega);have hmf:IntKind.i64.wrap (IntKind.u64.wrap (IntKind.i64.wrap (((st:Nat):Int)+((rr:Nat):Int)))/2^Int.toNat 1)=((f:Nat):Int):=by rw[Gc _ _ J,hf]
  have hpf:IntKind.i64.wrap (((D0+m-1:Nat):Int)-(f:Nat))=((m+(D0-1-f):Nat):Int):=by rw[wrap_i64 J J];omega
  have hr1:((P++U++V++S).map cM)[m+(D0-1-f)]?=some (cM v):=by rw[hm];exact SH hv
  have hr2:((P++U++V++S).map cM)[f]?=some (cM u):=by rw[show f=P.length+(f-P.length) by omega];exact SG hu
  have hw1:=dN f;refine H ?_;rw[hmf];refine mN 14 [158,159,160,161,162,163,164,165,166,167,168,169,170,171] aH ?_;refine H ?_;rw[hpf];refine np O O O O O O O O O ?_;rw[be,aM (m+(D0-1-f))];refine ci O O (du O O O hr1 O) ?_;refine H ?_;refine np O O O O O O O O O ?_;rw[be,aM f];refine ci O O (du O O O hr2 O) ?_;refine H ?_;refine ci O O (uE O (ny (hs v (jo _ (bC hv))) (hs u (jp _ (bC hu)))) O ah O O) ?_;refine D ?_ ?_<;>intro h
  .have hge2:cG u<=cG v:=by
    have h9:¬sgn (cG v-cG u)<0:=by simpa using h
    rw[eW]at h9;grind
   clear h;refine H ?_;exact⟨(f+1,rr),⟨by simp only;omega,by simp only;omega,l3,.inr ⟨f-P.length,u,v,J,hu,by rw[show D0+m-(f+1)-m=D0-1-f by omega];exact hv,hge2⟩,hB⟩,by simp only;omega,O,O,O,O,O,O,O,congrArg I hw1,ah⟩
  .have hlt2:cG v<cG u:=by
    have h9:sgn (cG v-cG u)<0:=by simpa using h
    have:=(eW _).1 h9;grind
   clear h;refine H ?_;exact⟨(st,f),⟨l1,by simp only;omega,by simp only;omega,hA,.inr ⟨D0-1-f,v,u,J,hv,hu,hlt2⟩⟩,by simp only;omega,ah⟩
 .have he:st=rr:=co h;clear h;subst he;obtain⟨k,hk⟩:∃k,k=st-P.length:=⟨_,O⟩;obtain⟨j,hj⟩:∃j,j=D0-st:=⟨_,O⟩;have c1:Mq cG (U.take k) (V.drop j):=by
   refine MA hU hV ?_;rcases hA with e|⟨s',u,v,e,hu,hv,huv⟩
   .rcases q6 with e2|e2
    .exact .inl J
    .exact .inr (.inl J)
   .exact .inr (.inr ⟨s',u,v,J,hu,by rw[show j=D0+m-st-m by omega];exact hv,huv⟩)
  have c2s:Ra cG (V.take j) (U.drop k):=by
   refine MB hV hU ?_;rcases hB with e|⟨t',v,u,e,hv,hu,huv⟩
   .rcases q7 with e2|e2
    .exact .inl J
    .exact .inr (.inl J)
   .exact .inr (.inr ⟨t',v,u,J,hv,by rw[hk];exact hu,huv⟩)
  have c2:Mq cG (V.take j) (U.drop k):=fun x hx y hy=>iu (c2s x hx y hy);have hend:IntKind.i64.wrap (((D0+m:Nat):Int)-(st:Nat))=((m+j:Nat):Int):=by rw[wrap_i64 J J];omega
  have hkl:(U.take k).length=k:=by rw[bc];omega
  have hjl:(V.take j).length=j:=by rw[bc];omega
  have hkd:(U.drop k).length=U.length-k:=gW;have hjd:(V.drop j).length=V.length-j:=gW;have eU:U.take k++U.drop k=U:=ef _ _;have eV:V.take j++V.drop j=V:=ef _ _;have hR0:P++U++V++S=P++U.take k++U.drop k++V.take j++(V.drop j++S):=by
   have e1:P++U++V++S=P++(U.take k++U.drop k)++(V.take j++V.drop j)++S:=by rw[eU,eV]
   rw[e1];simp only[bg]
  refine cV 39 ?_;rw[hend];have hR1:j=0\/k=U.length->P++U++V++S=P++U.take k++V.take j++(U.drop k++V.drop j++S):=by
   rintro(h|h)
   .rw[hR0,h,dK,cu,cu];try simp only[bg]
   .rw[hR0,h,gX,cu,k9];try simp only[bg]
  have hW1:j=0\/k=0->jR cG (U.take k++V.take j):=fun h=>uK (nW hU k) (nW hV j) fun x hx y hy=>by
   rcases h with h|h
   .rw[h]at hy;simp at hy
   .rw[h]at hx;simp at hx
  have hW2:j=V.length\/k=U.length->jR cG (U.drop k++V.drop j):=fun h=>uK (nU hU k) (nU hV j) fun x hx y hy=>by
   rcases h with h|h
   .rw[h]at hy;simp at hy
   .rw[h]at hx;simp at hx
  have hsT:∀p∈U.take k++V.take j,p.at'.sz 7000000:=fun p hp=>by
   rcases dJ.1 hp with h|h
   .exact hs p (jp _ (dD h))
   .exact hs p (jo _ (dD h))
  have hsD:∀p∈U.drop k++V.drop j,p.at'.sz 7000000:=fun p hp=>by
   rcases dJ.1 hp with h|h
   .exact hs p (jp _ (lF h))
   .exact hs p (jo _ (lF h))
  refine Gx (fun _:Unit=>True) (fun _=>[(0,.als 5 g 0 N),(1,I P.length),(3,I b),(4,.clo 302 []),(18,I D0),(20,I (st:Nat)),(24,I (m+j:Nat))]) (fun _=>[(5,g,⟨320,8,(P++U.take k++V.take j++(U.drop k++V.drop j++S)).map cM,1⟩)]) ?_ ?_
  .refine fi ?_ ?_<;>intro h
   .have hlt:st<m:=cw h;clear h;refine D ?_ ?_<;>intro h
    .have hj0:0<j:=cw h;clear h;rw[hR0]
     (refine cV 40 ?_;refine aR 5 ?_)
     refine H ?_;refine br O (QD (N:=N) (P++U.take k) (U.drop k) (V.take j) (V.drop j++S) (by intro e;have:=congrArg List.length e;rw[hkd]at this;have:U.length-k=0:=this;omega) (by intro e;have:=congrArg List.length e;rw[hjl]at this;have:j=0:=this;omega) (by rw[<-hR0];exact hN) hN1 O (congrArg (fun n:Nat=>I n) (show st=(P++U.take k).length by rw[bQ];omega)) (congrArg (fun n:Nat=>I n) (show m=(P++U.take k).length+(U.drop k).length by rw[bQ];omega)) (congrArg (fun n:Nat=>I n) (show m+j=(P++U.take k).length+(U.drop k).length+(V.take j).length by rw[bQ];omega)) O ⟨O,bh⟩ fun s4=>?_);refine aT ?_;refine H ?_;refine⟨(),trivial,O,O,O,O,O,O,O,?_,bh⟩;rw[show P++U.take k++V.take j++(U.drop k++V.drop j++S)=P++U.take k++V.take j++U.drop k++(V.drop j++S) by simp only[bg]];rfl
    .have hj0:j=0:=co h;clear h;refine H ?_;exact⟨(),trivial,O,O,O,O,O,O,O,by rw[<-hR1 (.inl hj0)];rfl,bh⟩
   .have hge:k=U.length:=co h;clear h;refine H ?_;exact⟨(),trivial,O,O,O,O,O,O,O,by rw[<-hR1 (.inr hge)];rfl,bh⟩
  intro _ _ s3;refine cV 41 ?_;refine Gx (fun W:List BN=>W.Perm (U.take k++V.take j)/\(∀c,fG cG c W=fG cG c (U.take k++V.take j))/\jR cG W) (fun _=>[(0,.als 5 g 0 N),(3,I b),(4,.clo 302 []),(18,I D0),(24,I (m+j:Nat))]) (fun W=>[(5,g,⟨320,8,(P++W++(U.drop k++V.drop j++S)).map cM,1⟩)]) ?_ ?_
  .have hE:P++U.take k++V.take j++(U.drop k++V.drop j++S)=P++(U.take k++V.take j)++(U.drop k++V.drop j++S):=by simp only[bg]
   refine fi ?_ ?_<;>intro h
   .have hk0:0<k:=cw h;clear h;refine D ?_ ?_<;>intro h
    .have hj0:0<j:=cw h;clear h
     (refine cV 42 ?_;refine aR 5 ?_)
     refine H ?_;refine br O (ih (N:=N) P (U.take k) (V.take j) (U.drop k++V.drop j++S) J (by intro e;have:=congrArg List.length e;rw[hkl]at this;have:k=0:=this;omega) (by intro e;have:=congrArg List.length e;rw[hjl]at this;have:j=0:=this;omega) (nW hU k) (nW hV j) hsT (by rw[hlen];simp only[bQ];omega) hN1 O O (congrArg (fun n:Nat=>I n) (show st=P.length+(U.take k).length by omega)) (congrArg (fun n:Nat=>I n) (show D0=P.length+(U.take k).length+(V.take j).length by omega)) O ⟨O,bh⟩ fun s4 W hp hf hs4=>?_);refine aT ?_;refine H ?_;exact⟨W,⟨hp,hf,hs4⟩,ah⟩
    .have hj0:j=0:=co h;clear h;refine H ?_;exact⟨U.take k++V.take j,⟨.refl _,fun _=>rfl,hW1 (.inl hj0)⟩,O,O,O,O,O,by rw[<-hE];rfl,bh⟩
   .have hk0:k=0:=co h;clear h;refine H ?_;exact⟨U.take k++V.take j,⟨.refl _,fun _=>rfl,hW1 (.inr hk0)⟩,O,O,O,O,O,by rw[<-hE];rfl,bh⟩
  rintro W1 ⟨p1,f1,s1W⟩ s5;have hWl:W1.length=k+j:=by rw[p1.length_eq,bQ];omega
  have fin:∀(W2:List BN),W2.Perm (U.drop k++V.drop j)->(∀c,fG cG c W2=fG cG c (U.drop k++V.drop j))->jR cG W2->∀s6:St,K (({ reg:=s.reg,own:=(s6.over [] [(5,g,⟨320,8,(P++W1++W2++S).map cM,1⟩)]).own }:St).putR d (.tup [])):=fun W2 p2 f2 s2W s6=>by
   obtain⟨r1,r2⟩:=Ap hU hV c1 c2 p1 p2 s1W s2W;have:=hK s6 (W1++W2) r2 (DW c2s f1 f2) r1;rwa [show P++(W1++W2)++S=P++W1++W2++S by simp only[bg]]at this
  have hE2:P++W1++(U.drop k++V.drop j++S)=P++W1++(U.drop k++V.drop j)++S:=by simp only[bg]
  refine fi ?_ ?_<;>intro h
  .have hk1:k<U.length:=cw h;clear h;refine D ?_ ?_<;>intro h
   .have hj1:j<V.length:=cw h;clear h;rw[show P++W1++(U.drop k++V.drop j++S)=P++W1++U.drop k++V.drop j++S by simp only[bg]]
    (refine cV 44 ?_;refine aR 5 ?_)
    refine H ?_;refine br O (ih (N:=N) (P++W1) (U.drop k) (V.drop j) S J (by intro e;have:=congrArg List.length e;rw[hkd]at this;have:U.length-k=0:=this;omega) (by intro e;have:=congrArg List.length e;rw[hjd]at this;have:V.length-j=0:=this;omega) (nU hU k) (nU hV j) hsD (by rw[hlen];simp only[bQ];omega) hN1 O (congrArg (fun n:Nat=>I n) (show D0=(P++W1).length by rw[bQ];omega)) (congrArg (fun n:Nat=>I n) (show m+j=(P++W1).length+(U.drop k).length by rw[bQ];omega)) (congrArg (fun n:Nat=>I n) (show b=(P++W1).length+(U.drop k).length+(V.drop j).length by rw[bQ];omega)) O ⟨O,bh⟩ fun s6 W2 p2 f2 s2W=>?_);refine aT ?_;refine H ?_;exact dR O (fin W2 p2 f2 s2W s6)
   .have hj1:j=V.length:=co h;clear h;rw[hE2];refine H ?_;exact dR O (fin _ (.refl _) (fun _=>rfl) (hW2 (.inl hj1)) s5)
  .have hk1:k=U.length:=co h;clear h;rw[hE2];refine H ?_;exact dR O (fin _ (.refl _) (fun _=>rfl) (hW2 (.inr hk1)) s5)
theorem L4 (w:Nat):∀ {K:St->Prop} {s:St} {d g N:Nat} {x y z n c:Operand} {tys:Array TypeId} {ty:TypeId} {pos:String} {af:Array Edge} (P U V S:List BN),U.length+V.length<=w->U≠[]->V≠[]->jR cG U->jR cG V->(∀p∈U++V,p.at'.sz 7000000)->N=(P++U++V++S).length->N<=1000 ->
  s.ev x=.als 5 g 0 N->s.ev y=I P.length->s.ev z=I (P.length+U.length:Nat)->s.ev n=I (P.length+U.length+V.length:Nat)->s.ev c=.clo 302 []->FitO s [(5,g,⟨320,8,(P++U++V++S).map cM,1⟩)] ->
  (∀(s1:St) (W:List BN),W.Perm (U++V)->(∀c,fG cG c W=fG cG c (U++V))->jR cG W->K (({ reg:=s.reg,own:=(s1.over [] [(5,g,⟨320,8,(P++W++S).map cM,1⟩)]).own }:St).putR d (.tup []))) ->
  Sm Tryz.prog lay.get s ⟨some d,.call ⟨.value (.func 318),#[x,y,z,n,c],tys⟩,ty,pos,af,none⟩ K:=by
 induction w with
 |zero =>
  intro K s d g N x y z n c tys ty pos af P U V S hw hU;have:U.length=0:=J;exact absurd (ov.1 this) hU
 |succ w ih =>
  intro K s d g N x y z n c tys ty pos af P U V S hw hU0 hV0 hU hV hs hN hN1 hx hy hz hn hc ho hK;by_cases h1:U.length=1
  .obtain⟨u,rfl⟩:=zL.1 h1;exact Oa P u V S hV (fun p hp=>hs p hp) hN hN1 hx hy hz hn hc ho hK
  by_cases h2:V.length=1
  .obtain⟨v,rfl⟩:=zL.1 h2;exact Ob P U v S h1 hU (fun p hp=>hs p (by
    rcases bV.1 hp with rfl|hp
    .exact jo _ (List.mem_singleton_self _)
    .exact jp _ hp)) hN hN1 hx hy hz hn hc ho hK
  have p1:0<U.length:=oy.2 hU0;have p2:0<V.length:=oy.2 hV0;exact Oc ih P U V S hw J J hU hV hs hN hN1 hx hy hz hn hc ho hK
theorem F_ {A B S:List BN}{q:Nat}{x:BN}(h:B[q]?=some x):((A++B++S).map cM)[A.length+q]?=some (cM x):=by
 have hq:=(cb h).1;rw[bw,bg,fc J,show A.length+q-A.length=q by omega,fN hq,h];rfl
theorem Gb {A B S:List BN}{q:Nat}{y:BN}(h:q<B.length):(A++B++S).set (A.length+q) y=A++B.set q y++S:=by
 rw[bg,qY _ _ J,show A.length+q-A.length=q by omega,mf _ _ h,bg]
theorem FH {K:St->Prop}{s:St}{d g N:Nat}{x y z c:Operand}{tys:Array TypeId}{ty:TypeId}{pos:String}{af:Array Edge}(A l S:List BN)(hN:N=(A++l++S).length)(hN1:N<=1000)
  (hx:s.ev x=.als 5 g 0 N) (hy:s.ev y=I A.length) (hz:s.ev z=I (A.length+l.length:Nat)) (hc:s.ev c=.clo 302 [])
  (hd:∀p∈l,p.at'.sz 7000000)
  (ho:FitO s [(5,g,⟨320,8,(A++l++S).map cM,1⟩)])
  (hK:∀s1:St,K (({ reg:=s.reg,own:=(s1.over [] [(5,g,⟨320,8,(A++b_ cG l++S).map cM,1⟩)]).own }:St).putR d (.tup []))) :
  Sm Tryz.prog lay.get s ⟨some d,.call ⟨.value (.func 317),#[x,y,z,c],tys⟩,ty,pos,af,none⟩ K:=by
 refine cz layOk O O Tryz.func317 O Y O O ?_;show PWP _ _ _ _ (bB s (([x,y,z,c]:List Operand).map s.ev++[]));rw[show(([x,y,z,c]:List Operand).map s.ev++([]:List PV))=[.als 5 g 0 N,I A.length,I (A.length+l.length:Nat),.clo 302 []] by simp[hx,hy,hz,hc]];rw[show bB s [.als 5 g 0 N,I A.length,I (A.length+l.length:Nat),.clo 302 []]=bB (s.over [] [(5,g,⟨320,8,(A++l++S).map cM,1⟩)]) [.als 5 g 0 N,I A.length,I (A.length+l.length:Nat),.clo 302 []] by rw[Fit.over (l:=[]) ho]];have hlen:N=A.length+l.length+S.length:=by rw[hN];simp;omega
 have h1s:b_ cG (l.take 1)++l.drop 1=l:=by
  cases l with
  |nil=>rfl
  |cons x r=>rfl
 have hw0:IntKind.i64.wrap (((A.length:Nat):Int)+1)=((A.length+1:Nat):Int):=by rw[wrap_i64 J J];omega
 refine H ?_;rw[hw0];refine ai (fun i=>1<=i/\(i<=l.length\/i=1)) (fun i=>[(0,.als 5 g 0 N),(1,I A.length),(2,I (A.length+l.length:Nat)),(3,.clo 302 []),(8,I (A.length+i:Nat))])
  (fun i=>[(5,g,⟨320,8,(A++(b_ cG (l.take i)++l.drop i)++S).map cM,1⟩)]) (fun i=>l.length+1-i) 1 ⟨aY,.inr O⟩ ⟨O,O,O,O,O,by rw[h1s];rfl,bh⟩ ?_
 rintro i s1 ⟨hi1,hi⟩;refine D ?_ ?_<;>intro h
 .have hlt:i<l.length:=cw h;clear h;obtain⟨p,hp⟩:=ay hlt;have htk:l.take (i+1)=l.take i++[p]:=bR hp;have hdr:l.drop i=p::l.drop (i+1):=jk hp;have hnx:IntKind.i64.wrap (((A.length+i:Nat):Int)+1)=((A.length+(i+1):Nat):Int):=by rw[wrap_i64 J J];omega
  generalize hP:b_ cG (l.take i)=P at *
  have hPl:P.length=i:=by rw[<-hP,fj,bc];omega
  have hstart:P++l.drop i=cD P p i++l.drop (i+1):=by
   have hti:P.take i=P:=cT J;have hdi:P.drop i=[]:=jn J;rw[hdr,cD,hti,hdi];simp
  refine H ?_;refine ai (fun j=>j<=i/\∀q y,j<=q->P[q]?=some y->cG p<cG y) (fun j=>[(0,.als 5 g 0 N),(1,I A.length),(2,I (A.length+l.length:Nat)),(3,.clo 302 []),(8,I (A.length+i:Nat)),(9,I (A.length+j:Nat))])
   (fun j=>[(5,g,⟨320,8,(A++(cD P p j++l.drop (i+1))++S).map cM,1⟩)]) (fun j=>j) i ⟨aY,fun q y hq hy=>by rw[fe J]at hy;cases hy⟩ ⟨O,O,O,O,O,O,by rw[hstart];rfl,bh⟩ ?_
  rintro j s2 ⟨hj,hpre⟩;refine cX 17 [18,19,20,21,22,23,24,25,26,27,28,29,30,31,32,33,34] ?_;refine fi ?_ ?_<;>intro h
  .have hj0:0<j:=cw h;clear h;obtain⟨k,rfl⟩:∃k,j=k+1:=⟨j-1,J⟩;have hIl:(cD P p (k+1)).length=i+1:=by simp[cD];omega
   have hB1:(cD P p (k+1)++l.drop (i+1))[k+1]?=some p:=by
    rw[fN J,qO J]
   obtain⟨y,hy1⟩:=ay (show k<P.length by omega);have hB2:(cD P p (k+1)++l.drop (i+1))[k]?=some y:=by
    rw[fN J,nF J J,hy1]
   have hrow:=F_ (A:=A) (S:=S) hB1;have hrow2:=F_ (A:=A) (S:=S) hB2;have hym:y∈l:=dD ((iG cG _).mem_iff.1 (hP▸bC hy1));have hw1:IntKind.i64.wrap (((A.length+(k+1):Nat):Int)-1)=((A.length+k:Nat):Int):=by rw[wrap_i64 J J];omega
   refine H ?_;refine np O O O O O O O O O ?_;rw[be,aM (A.length+(k+1))];refine ci O O (du O O O hrow O) ?_;refine H ?_;rw[hw1];refine np O O O O O O O O O ?_;rw[be,aM (A.length+k)];refine ci O O (du O O O hrow2 O) ?_;refine ax (ny (hd p (bC hp)) (hd y hym)) ?_;refine D ?_ ?_<;>intro h
   .have hlt2:cG p<cG y:=by have:=(eW _).1 (bk h);grind
    clear h;refine H ?_;refine kq [] [5] 15 [15,16,17] [2,3,4] aH aH ?_;refine H ?_;rw[hw1];refine np O O O O O O O O O ?_;rw[be,aM (A.length+k)];refine ci O O (du O O O hrow2 O) ?_;refine H ?_;refine np O O O O O O O O O ?_;rw[be,aM (A.length+(k+1))];refine ci O O (du O O O hrow O) ?_;refine H ?_;refine np O O O O O O O O O ?_;rw[be,aM (A.length+(k+1))];refine H ?_;refine jQ O O O (cP (kd':=1) O O O hrow O O ah O O O O ⟨nb O,?_⟩);refine np O O O O O O O O O ?_;rw[be,aM (A.length+k)];refine jQ O O O (cP (kd':=1) O O O (row:=cM y) (by
     show(((A++(cD P p (k+1)++l.drop (i+1))++S).map cM).set (A.length+(k+1)) _)[A.length+k]? = _
     rw[et J];exact hrow2) O O ah O O O O ⟨nb O,?_⟩)
    refine H ?_;refine⟨k,⟨J,fun q z hq hz=>?_⟩,J,O,O,O,O,O,congrArg I hw1,?_,bh⟩
    .by_cases hqk:q=k
     .subst hqk;rw[hy1]at hz;cases hz;exact hlt2
     .exact hpre q z J hz
    .refine Eq.trans (b:=(g,some (Cont.mk 320 8 ((((A++(cD P p (k+1)++l.drop (i+1))++S).map cM).set (A.length+(k+1)) (cM y)).set (A.length+k) (cM p)) 1))) O ?_;rw[<-gY,<-gY,Gb (by rw[bQ];omega),Gb (by rw[jF,bQ];omega),mf _ _ J,mf _ _ (by rw[jF];omega),pM J hy1]
   .have hge2:cG y<=cG p:=by
     have h9:=bS h;rw[eW]at h9;grind
    clear h;have hpos:tG cG P p=k+1:=oG J hpre (.inr ⟨y,hy1,hge2⟩);have hins:b_ cG (l.take (i+1))=cD P p (k+1):=by rw[htk,jx,hP,kw,hpos]
    refine H ?_;refine⟨i+1,⟨J,.inl J⟩,J,O,O,O,O,congrArg I hnx,?_,bh⟩;rw[hins];rfl
  .have hj0:j=0:=co h;subst hj0;clear h;have hpos:tG cG P p=0:=oG J hpre (.inl O);have hins:b_ cG (l.take (i+1))=cD P p 0:=by rw[htk,jx,hP,kw,hpos]
   refine H ?_;refine⟨i+1,⟨J,.inl J⟩,J,O,O,O,O,congrArg I hnx,?_,bh⟩;rw[hins];rfl
 .have hge:l.length<=i:=co h;have hend:b_ cG (l.take i)++l.drop i=b_ cG l:=by
   rw[cT hge,jn hge,cu]
  rw[hend];refine H ?_;exact dR O (hK s1)
section
variable {α:Type}{key:α->Rat}
inductive Bk (key:α->Rat) (n:Nat):List α->Prop
 |last {l:List α}:l.length<=n->jR key l->Bk key n l
 |cons {x l:List α}:x.length=n->jR key x->Bk key n l->Bk key n (x++l)
inductive Fk (key:α->Rat) (n:Nat):List α->Prop
 |nil:Fk key n []
 |snoc {p x:List α}:Fk key n p->x.length=n->jR key x->Fk key n (p++x)
theorem JD {n:Nat}{p:List α}(h:Fk key n p):∀ {t:List α},Bk key n t->Bk key n (p++t):=by
 induction h with
 |nil=>intro t ht;exact ht
 |snoc _ hx hs ih=>intro t ht;rw[bg];exact ih (.cons hx hs ht)
theorem u6 {n:Nat}{t:List α}(h:Bk key n t)(hl:t.length<=n):jR key t:=by
 cases h with
 |last _ hs=>exact hs
 |cons hx hs hb =>
  rename_i x l;have:l=[]:=ov.1 (by rw[bQ]at hl;omega);subst this;rw[cu];exact hs
theorem PB {n:Nat}{t:List α}(hn:0<n)(h:Bk key n t)(hl:2*n<=t.length):∃x y l,t=x++y++l/\x.length=n/\y.length=n/\jR key x/\jR key y/\Bk key n l:=by
 cases h with
 |last h1 _=>omega
 |cons hx hs hb =>
  rename_i x l;cases hb with
  |last h1 hs2=>exact⟨x,l,[],(cu _).symm,hx,by rw[bQ]at hl;omega,hs,hs2,.last (aP _) List.Pairwise.nil⟩
  |cons hy hs2 hb2 =>
   rename_i y l;exact⟨x,y,l,(bg ..).symm,hx,hy,hs,hs2,hb2⟩
theorem MD {n:Nat}{t:List α}(h:Bk key n t)(h1:n<t.length)(h2:t.length<2*n):∃x y,t=x++y/\x.length=n/\y.length<n/\y≠[]/\jR key x/\jR key y:=by
 cases h with
 |last h3 _=>omega
 |cons hx hs hb =>
  rename_i x l;rw[bQ]at h1 h2;refine⟨x,l,O,hx,J,?_,hs,u6 hb J⟩;rintro rfl;simp at h1;omega
end
theorem JB {W l:List BN}(h:∀c,fG cG c W=fG cG c l){p:BN}(hp:p∈W):p∈l:=by
 have:p∈fG cG (cG p) W:=ir.2 ⟨hp,O⟩;rw[h]at this;exact(ir.1 this).1
theorem PF {α:Type}{t:List α}{n:Nat}(h:n<=t.length):∃a s,t=a++s/\a.length=n:=⟨t.take n,t.drop n,(ef n t).symm,by rw[bc];omega⟩
theorem ES {K:St->Prop}{s:St}{d g:Nat}{x z c:Operand}{tys:Array TypeId}{ty:TypeId}{pos:String}{af:Array Edge}(l:List BN)(hl:l.length<=400)
  (hx:s.ev x=.als 5 g 0 (l.map cM).length) (hz:s.ev z=I l.length) (hc:s.ev c=.clo 302 [])
  (hd:∀p∈l,p.at'.sz 7000000)
  (ho:FitO s [(5,g,⟨320,8,l.map cM,1⟩)])
  (hK:∀s1:St,K (({ reg:=s.reg,own:=(s1.over [] [(5,g,⟨320,8,(b_ cG l).map cM,1⟩)]).own }:St).putR d (.tup []))) :
  Sm Tryz.prog lay.get s ⟨some d,.call ⟨.value (.func 314),#[x,z,c],tys⟩,ty,pos,af,none⟩ K:=by
 have hK2:∀(s1:St) (W:List BN),jR cG W->(∀c,fG cG c W=fG cG c l)->K (({ reg:=s.reg,own:=(s1.over [] [(5,g,⟨320,8,W.map cM,1⟩)]).own }:St).putR d (.tup [])):=fun s1 W hs hf=>by rw[IC hs hf];exact hK s1
 clear hK;rw[aF]at hx;have hds:∀ {W:List BN},(∀c,fG cG c W=fG cG c l)->∀p∈W,p.at'.sz 7000000:=fun hf p hp=>hd p (JB hf hp);obtain⟨N,hN⟩:∃N,N=l.length:=⟨_,O⟩;rw[<-hN]at hx hz hl;refine cz layOk O O Tryz.func314 O Y O O ?_;show PWP _ _ _ _ (bB s (([x,z,c]:List Operand).map s.ev++[]));rw[show(([x,z,c]:List Operand).map s.ev++([]:List PV))=[.als 5 g 0 N,I (N:Nat),.clo 302 []] by simp[hx,hz,hc]];rw[show bB s [.als 5 g 0 N,I (N:Nat),.clo 302 []]=bB (s.over [] [(5,g,⟨320,8,l.map cM,1⟩)]) [.als 5 g 0 N,I (N:Nat),.clo 302 []] by rw[Fit.over (l:=[]) ho]];clear ho hx hz hc;refine H ?_;refine ai (fun q:List BN × List BN=>Fk cG 20 q.1/\(q.1++q.2).length=N/\∀c,fG cG c (q.1++q.2)=fG cG c l) (fun q=>[(0,.als 5 g 0 N),(1,I (N:Nat)),(2,.clo 302 []),(6,I 20),(7,I (q.1.length:Nat)),(8,I (q.1.length+20:Nat))])
  (fun q=>[(5,g,⟨320,8,(q.1++q.2).map cM,1⟩)]) (fun q=>q.2.length) ([],l) ⟨.nil,hN.symm,fun c=>rfl⟩ ah ?_
 rintro⟨P,T⟩ s1 ⟨hP,hPT,hF⟩;dsimp only at hP hPT hF ⊢;rw[bQ]at hPT;refine D ?_ ?_<;>intro h
 .have hlt:P.length+20<=N:=cw h;clear h;obtain⟨A,S,rfl,hA⟩:=PF (show 20<=T.length by omega);rw[bQ]at hPT;rw[<-bg]at hF ⊢;have hw:IntKind.i64.wrap (((P.length+20:Nat):Int)+20)=((P.length+20+20:Nat):Int):=by rw[wrap_i64 J J];omega
  have hPA:P.length+20=(P++b_ cG A).length:=by rw[bQ,fj,hA]
  (refine cV 3 ?_;refine aR 4 ?_)
  refine H ?_;refine br O (FH (N:=N) P A S aS J O O (congrArg (fun n:Nat=>I n) (show P.length+20=P.length+A.length by rw[hA])) O (fun p hp=>hds hF p (jp _ (jo _ hp))) ⟨O,bh⟩ fun s2=>?_);refine aT ?_;refine H ?_;refine⟨(P++b_ cG A,S),⟨.snoc hP (by rw[fj,hA]) (jb cG A),by simp[fj];omega,fun c=>by rw[<-hF c,bW,bW,sQ,<-bW,<-bW]⟩,by simp;omega,O,O,O,O,congrArg (fun n:Nat=>I n) hPA,?_,O,bh⟩;dsimp only;rw[<-hPA];exact congrArg I hw
 have hge:¬P.length+20<=N:=co h;clear h;rw[show P++T=P++T++[] from(cu _).symm]
 (refine cV 6 ?_;refine aR 4 ?_)
 refine H ?_;refine br O (FH (N:=N) P T [] aS J O O (congrArg (fun n:Nat=>I n) (show N=P.length+T.length by omega)) O (fun p hp=>hds hF p (jo _ hp)) ⟨O,bh⟩ fun s2=>?_);refine aT ?_;have hF2:∀c,fG cG c (P++b_ cG T)=fG cG c l:=fun c=>by rw[<-hF c,bW,bW,sQ]
 have hB2:Bk cG 20 (P++b_ cG T):=JD hP (.last (by rw[fj];omega) (jb cG T));have hR2:(P++b_ cG T).length=N:=by rw[bQ,fj];exact hPT
 rw[show P++b_ cG T++[]=P++b_ cG T from cu _];generalize P++b_ cG T=R at *
 clear hP hF hge hPT;refine H ?_;refine ai (fun q:Nat × List BN=>0<q.1/\q.1<=800/\Bk cG q.1 q.2/\q.2.length=N/\∀c,fG cG c q.2=fG cG c l) (fun q=>[(0,.als 5 g 0 N),(1,I (N:Nat)),(2,.clo 302 []),(6,I (q.1:Nat))])
  (fun q=>[(5,g,⟨320,8,q.2.map cM,1⟩)]) (fun q=>N-q.1) (20,R) ⟨by show 0<20;omega,by show 20<=800;omega,hB2,hR2,hF2⟩ ah ?_
 clear hB2 hR2 hF2;rintro⟨b,R⟩ s3 ⟨hb0,hb8,hB,hR,hF⟩;dsimp only at hb0 hb8 hB hR hF ⊢;refine D ?_ ?_<;>intro h
 .have hbN:b<N:=cw h;clear h;have hw2:IntKind.i64.wrap (2*((b:Nat):Int))=((2*b:Nat):Int):=by rw[wrap_i64 J J];omega
  have hw3:IntKind.i64.wrap (((b:Nat):Int)*2)=((2*b:Nat):Int):=by rw[wrap_i64 J J];omega
  refine H ?_;rw[hw2];refine ai (fun q:List BN × List BN=>Fk cG (2*b) q.1/\Bk cG b q.2/\(q.1++q.2).length=N/\∀c,fG cG c (q.1++q.2)=fG cG c l) (fun q=>[(0,.als 5 g 0 N),(1,I (N:Nat)),(2,.clo 302 []),(6,I (b:Nat)),(7,I (q.1.length:Nat)),(8,I (q.1.length+2*b:Nat))])
   (fun q=>[(5,g,⟨320,8,(q.1++q.2).map cM,1⟩)]) (fun q=>q.2.length) ([],R) ⟨.nil,hB,hR,hF⟩ ⟨O,O,O,O,O,(congrArg (fun n:Nat=>I n) (show 2*b=([]:List BN).length+2*b by simp)),O,bh⟩ ?_
  clear hB hR hF;rintro⟨P,T⟩ s4 ⟨hP,hB,hR,hF⟩;dsimp only at hP hB hR hF ⊢;rw[bQ]at hR;have hw1:IntKind.i64.wrap (((P.length:Nat):Int)+((b:Nat):Int))=((P.length+b:Nat):Int):=by rw[wrap_i64 J J];omega
  refine D ?_ ?_<;>intro h
  .have hlt:P.length+2*b<=N:=cw h;clear h;have hw4:IntKind.i64.wrap (((P.length+2*b:Nat):Int)+((2*b:Nat):Int))=((P.length+2*b+2*b:Nat):Int):=by rw[wrap_i64 J J];omega
   obtain⟨U,V,S,rfl,hU,hV,hsU,hsV,hBS⟩:=PB hb0 hB J;rw[bQ,bQ]at hR;have e0:P++(U++V++S)=P++U++V++S:=by simp[bg]
   rw[e0]at hF ⊢
   (refine cV 10 ?_;refine aR 7 ?_)
   refine H ?_;rw[hw1];refine br O (L4 (U.length+V.length) (N:=N) P U V S (aY) (by intro e;rw[e]at hU;simp at hU;omega) (by intro e;rw[e]at hV;simp at hV;omega) hsU hsV (fun p hp=>hds hF p (jp _ (by rw[bg];exact jo _ hp))) aS J O O (congrArg (fun n:Nat=>I n) (show P.length+b=P.length+U.length by rw[hU])) (congrArg (fun n:Nat=>I n) (show P.length+2*b=P.length+U.length+V.length by omega)) O ⟨O,bh⟩ fun s5 W hpW hfW hsW=>?_);refine aT ?_;refine H ?_;have hWl:W.length=2*b:=by rw[hpW.length_eq,bQ];omega
   have hPW:P.length+2*b=(P++W).length:=by rw[bQ,hWl]
   refine⟨(P++W,S),⟨.snoc hP hWl hsW,hBS,by simp;omega,fun c=>by rw[<-hF c,bW,bW,hfW,bW,bW,bW,bW];simp[bg]⟩,by simp;omega,O,O,O,O,congrArg (fun n:Nat=>I n) hPW,?_,O,bh⟩;refine Eq.trans (b:=I (IntKind.i64.wrap (((P.length+2*b:Nat):Int)+IntKind.i64.wrap (2*((b:Nat):Int))))) O ?_;rw[hw2,hw4,hPW]
  have hge:¬P.length+2*b<=N:=co h;clear h;refine H ?_;rw[hw1];refine aV O ?_ ?_<;>intro h
  .have hlt:P.length+b<N:=cw h;clear h;obtain⟨U,V,rfl,hU,hV,hV0,hsU,hsV⟩:=MD hB J J;rw[bQ]at hR;have e0:P++(U++V)=P++U++V++[]:=by simp[bg]
   rw[e0]at hF ⊢
   (refine cV 15 ?_;refine aR 5 ?_)
   refine H ?_;refine br O (L4 (U.length+V.length) (N:=N) P U V [] (aY) (by intro e;rw[e]at hU;simp at hU;omega) hV0 hsU hsV (fun p hp=>hds hF p (jp _ (by rw[bg];exact jo _ hp))) aS J O O (congrArg (fun n:Nat=>I n) (show P.length+b=P.length+U.length by rw[hU])) (congrArg (fun n:Nat=>I n) (show N=P.length+U.length+V.length by omega)) O ⟨O,bh⟩ fun s5 W hpW hfW hsW=>?_);refine aT ?_;refine H ?_;have hWl:W.length=U.length+V.length:=by rw[hpW.length_eq,bQ]
   rw[show P++W++[]=P++W from cu _];refine⟨(2*b,P++W),⟨J,J,JD hP (.last J hsW),by simp;omega,fun c=>by rw[<-hF c,bW,hfW,bW,bW,bW,bW,bg];simp[fG]⟩,by simp only;omega,O,O,O,congrArg I hw3,O,bh⟩
  .have hge2:¬P.length+b<N:=co h;clear h;refine H ?_;refine⟨(2*b,P++T),⟨J,J,JD hP (.last J (u6 hB J)),by simp;omega,hF⟩,by simp only;omega,O,O,O,congrArg I hw3,O,bh⟩
 .have hge:¬b<N:=co h;clear h;refine H ?_;exact dR O (hK2 s3 R (u6 hB J) hF)
theorem LE {K:St->Prop}{s:St}{d g:Nat}{x c:Operand}{tys:Array TypeId}{ty:TypeId}{pos:String}{af:Array Edge}(l:List BN)(hl:l.length<=400)
  (hx:s.ev x=.als 5 g 0 (l.map cM).length) (hc:s.ev c=.clo 302 [])
  (hd:∀p∈l,p.at'.sz 7000000)
  (ho:FitO s [(5,g,⟨320,8,l.map cM,1⟩)])
  (hK:∀s1:St,K (({ reg:=s.reg,own:=(s1.over [] [(5,g,⟨320,8,(b_ cG l).map cM,1⟩)]).own }:St).putR d (.tup []))) :
  Sm Tryz.prog lay.get s ⟨some d,.call ⟨.value (.func 301),#[x,c],tys⟩,ty,pos,af,none⟩ K:=by
 refine cz layOk O O Tryz.func301 O Y O O ?_;show PWP _ _ _ _ (bB s (([x,c]:List Operand).map s.ev++[]));rw[show(([x,c]:List Operand).map s.ev++([]:List PV))=[.als 5 g 0 (l.map cM).length,.clo 302 []] by simp[hx,hc]];rw[show bB s [.als 5 g 0 (l.map cM).length,.clo 302 []]=bB (s.over [] [(5,g,⟨320,8,l.map cM,1⟩)]) [.als 5 g 0 (l.map cM).length,.clo 302 []] by rw[Fit.over (l:=[]) ho]];have hen:(l.map cM).length=l.length:=by rw[aF]
 (refine cV 0 ?_;refine aR 4 ?_)
 refine H ?_;refine br O (ES l hl O (congrArg (fun n:Nat=>I n) hen) O hd ⟨O,bh⟩ fun s2=>?_);refine aT ?_;refine H ?_;exact dR O (hK s2)
def zA:AR:=⟨RR.zero,RR.zero⟩
def r7 (a:AR)(F:List RR):List PV:=eA a++[.sl (F.map eR)]
def zS:List PV:=zN++zN++[.nil]
theorem WeakL.append {a b c d:List PV}(h1:WeakL a b)(h2:WeakL c d):WeakL (a++c) (b++d):=by
 induction h1 with
 |nil=>exact h2
 |cons h _ ih=>exact .cons h ih
theorem mU:WeakL (zN++zN) (eA zA):=fu.append fu
theorem rQ:WeakL zS (r7 zA []):=mU.append (.cons .nil .nil)
structure SQ where
 a:AR
 F:List RR
 r:AR
 e:Int
def SQ.pv (q:SQ):PV := .tup [.agg (r7 q.a q.F),.agg (eA q.r),I q.e]
noncomputable def tE (b:BR):Rat × Rat:=((bd b).eqQ 150000).getD (0,0)
noncomputable def fX (b:BR):SQ :=
 if dP b=0 then
  if p_ b iI=true then⟨zA,[],iI,12⟩
  else match (gj b.l).find? (p_ b) with
   |some r=>⟨zA,[],r,13⟩
   |none=>if nJ b (tE b).1 (tE b).2=true then⟨zA,[],zA,14⟩ else⟨⟨ofQ (tE b).1,ofQ (tE b).2⟩,FL b.l (tE b).1 (tE b).2,zA,0⟩
 else⟨zA,[],zA,dP b⟩
def BR.Good (b:BR):Prop:=b.Lim/\(dP b=0->b.Ok/\(bd b).SzT/\∀t,(o8 b.l t).length<=54)
theorem vz {b:BR}(hb:b.Ok)(hs:(bd b).SzT)(h:qp b):(bd b).eqQ 150000=some (tE b)/\(bd b).Bal (tE b).1 (tE b).2/\HQ (tE b).1 24000/\HQ (tE b).2 20000:=by
 obtain⟨x,h1,h2,h3⟩:=Rv hb hs h;have e:tE b=x:=by rw[tE,h1];rfl
 rw[e];exact⟨h1,h2,h3⟩
theorem Ho {b:BR}(h1:¬p_ b iI=true)(h2:(gj b.l).find? (p_ b)=none):qp b:=by
 refine⟨by simpa using h1,fun r hr=>?_⟩;have:=z6.1 h2 r hr;simpa using this
theorem IA (b:BR)(hb:b.Lim)(he:dP b≠0):aU 54 [.agg (eB b)] (.tup [.agg zS,.agg (zN++zN),I (dP b)]):=by
 have h1:=ia b hb;generalize dP b=e at *
 refine aD Proofs.Tryz.func54 ?_;refine ax h1 ?_;refine D ?_ ?_<;>intro h
 .clear h;exact cA
 .exfalso;simp at h;exact he h
theorem wU (b:BR)(hb:b.Lim)(h0:dP b=0)(r:AR)(e:Int)(he:e≠0)(h93:aU 119 [.agg (eB b)] (.tup [.agg (eA r),I e])):aU 54 [.agg (eB b)] (.tup [.agg zS,.agg (eA r),I e]):=by
 have h1:=ia b hb;rw[h0]at h1;clear h0 hb;refine aD Proofs.Tryz.func54 ?_;refine ax h1 ?_;refine G h93 ?_;refine D ?_ ?_<;>intro h
 .clear h;refine H ?_;refine bL [2,3] [3,4] aH ?_;refine H ?_;exact cA
 .exfalso;simp at h;exact he h
theorem C7 (b:BR)(hb:b.Lim)(h0:dP b=0)(h93:aU 119 [.agg (eB b)] (.tup [.agg (zN++zN),I 0]))(a:AR)(h120:aU 120 [.agg (eB b)] (.agg (eA a)))
  (h121:aU 121 [.agg (eB b),.agg (eA a)] (.bool true)):aU 54 [.agg (eB b)] (.tup [.agg zS,.agg (zN++zN),I 14]):=by
 have h1:=ia b hb;rw[h0]at h1;clear h0 hb;refine aD Proofs.Tryz.func54 ?_;refine ax h1 ?_;refine G h93 ?_;refine G h120 ?_;refine ax h121 ?_;exact cA
theorem yO (b:BR)(hb:b.Lim)(h0:dP b=0)(h93:aU 119 [.agg (eB b)] (.tup [.agg (zN++zN),I 0]))(a:AR)(F:List RR)(h120:aU 120 [.agg (eB b)] (.agg (eA a)))
  (h121:aU 121 [.agg (eB b),.agg (eA a)] (.bool false)) (h23:aU 122 [.sl (b.l.map eS),.agg (eA a)] (.tup [.sl (F.map eR),I 0])):aU 54 [.agg (eB b)] (.tup [.agg (r7 a F),.agg (zN++zN),I 0]):=by
 have h1:=ia b hb;rw[h0]at h1;clear h0 hb;refine aD Proofs.Tryz.func54 ?_;refine ax h1 ?_;refine G h93 ?_;refine G h120 ?_;refine ax h121 ?_;refine G h23 ?_;exact cA
theorem NV (l:List BN)(hl:l.length<=54):SortC l:=⟨fun hx hc hd ho hK=>LE l J hx hc hd ho hK⟩
theorem PO {b:BR}(hb:b.Ok)(hs:(bd b).SzT)(h40:∀t,(o8 b.l t).length<=54)(hS:∀t,SortC (o8 b.l t))(h:qp b):aU 120 [.agg (eB b)] (.agg (eA ⟨ofQ (tE b).1,ofQ (tE b).2⟩)) :=
 x9 b hb h40 hS (fun t=>Bd.enough (mV hb) t (pX h)) Y (vz hb hs h).1
theorem mR (b:BR)(hg:b.Good)(hS:dP b=0->∀t,SortC (o8 b.l t)):aU 54 [.agg (eB b)] (fX b).pv:=by
 rw[fX];by_cases h0:dP b=0
 .rw[if_pos h0];obtain⟨hb,hs,h40⟩:=hg.2 h0;have h93:=tt b hb;rw[nQ]at h93;by_cases h1:p_ b iI=true
  .rw[if_pos h1]at h93 ⊢;exact(wU b hg.1 h0 iI 12 Y h93).weak (WeakL.refl _) (WeakL.tup (.cons rQ.agg (WeakL.refl _)))
  .rw[if_neg h1]at h93 ⊢;cases h2:(gj b.l).find? (p_ b) with
   |some r =>
    rw[h2]at h93;exact(wU b hg.1 h0 r 13 Y h93).weak (WeakL.refl _) (WeakL.tup (.cons rQ.agg (WeakL.refl _)))
   |none =>
    rw[h2]at h93;have hn:=Ho h1 h2;have h120:=PO hb hs h40 (hS h0) hn;obtain⟨_,hbal,hz,ht⟩:=vz hb hs hn;have va:Va ⟨ofQ (tE b).1,ofQ (tE b).2⟩ (tE b).1 (tE b).2 24000 20000:=⟨Vq.ofQ (h:=hz),Vq.ofQ (h:=ht)⟩;have h121:=yf b hb ⟨ofQ (tE b).1,ofQ (tE b).2⟩ (ha:=va) Y;dsimp only;cases hl:nJ b (tE b).1 (tE b).2 with
    |true =>
     rw[hl]at h121;exact(C7 b hg.1 h0 h93 _ h120 h121).weak (WeakL.refl _) (WeakL.tup (.cons rQ.agg (.cons mU.agg (WeakL.refl _))))
    |false =>
     rw[hl]at h121;have h23:=pI b.l hb.lim.l hb.chkL ⟨ofQ (tE b).1,ofQ (tE b).2⟩ (ha:=va) Y;exact(yO b hg.1 h0 h93 _ _ h120 h121 h23).weak (WeakL.refl _) (WeakL.tup (.cons (.rfl _) (.cons mU.agg (WeakL.refl _))))
 .rw[if_neg h0];exact(IA b hg.1 h0).weak (WeakL.refl _) (WeakL.tup (.cons rQ.agg (.cons mU.agg (WeakL.refl _))))
theorem DG (n:Nat)(hn:n<18446744073709551616):aU 132 [.int .u64 (n:Nat)] (.sl ((aJ n).map eU)):=by
 refine aD Proofs.Tryz.func132 ?_
 ((repeat (first|refine bJ ?_ | refine eg ?_ | refine dO ?_ | refine dH ?_));refine bZ ?_)
 refine lY O trivial ?_
 ((repeat (first|refine bJ ?_ | refine eg ?_ | refine dO ?_ | refine dH ?_));refine bZ ?_)
 (first|refine aC (kF 218 1 0 O O ?_)|refine aC (kE 218 1 0 O O ?_))
 refine H ?_;refine ai (fun q:Nat × List UInt16=>(aJ n=q.2++aJ q.1/\q.1<18446744073709551616)/\q.1*65536^q.2.length<=n) (fun q=>[(0,.int .u64 (q.1:Nat)),(3,.als 3 (1+q.2.length) 0 (q.2.map eU).length)]) (fun q=>[(3,1+q.2.length,⟨218,1,q.2.map eU,0⟩)]) (fun q=>q.1) (n,[]) ⟨⟨O,hn⟩,ap⟩ ah ?_;rintro⟨m,L⟩ s ⟨⟨hL,hmn⟩,hb⟩;simp only at hL hb hmn;dsimp only;refine D ?_ ?_<;>intro h
 .have hm:0<m:=cw h;clear h;have hLl:L.length<4:=by
   rcases bG L.length 4 with h|h
   .exact h
   .exfalso;have h1:65536^4<=65536^L.length:=gu Y h;have h2:=eO (show 1<=m by omega) h1;have:1*65536^4=18446744073709551616:=Y;omega
  have hL2:=vY hL hm;have hb2:m/65536*65536^(L++[UInt16.ofNat m]).length<=n:=by
   rw[bQ,zP,db,dg (65536^_),<-cY];exact bK (cE _ (ud _ _)) hb
  have ha:=OF m hmn;have hcv:IntKind.u16.wrap ((m-m/65536*65536:Nat):Int)=((UInt16.ofNat m).toNat:Int):=by rw[wrap_u16,bY,bY];omega
  refine H ?_;rw[ha,hcv];refine ci O O (fE O O O O O O O O O O ah O) ?_;refine aC (bO 0 O O O O O O O O O O O ah fW O O aS aS ?_);refine H ?_;refine⟨(m/65536,L++[UInt16.ofNat m]),⟨⟨hL2,by simp only;omega⟩,hb2⟩,by simp only;omega,?_,?_,?_,bh⟩
  .show PV.int .u64 ((m:Int)/2^(16:Int).toNat)=PV.int .u64 ((m/65536:Nat):Int);rw[show((2:Int)^(16:Int).toNat)=65536 by decide];congr 1
  .exact tO eU 3 1 L (UInt16.ofNat m)
  .exact qB eU 1 218 1 0 L (UInt16.ofNat m)
 .have hm:m=0:=co h;subst hm;clear h;rw[cW,cu]at hL;rw[hL];refine H ?_;exact lC O O O ⟨O,O,O⟩ O
theorem rU (z:Int)(hz:i64 z):aU 59 [I z] (.agg (eI (di z))):=by
 obtain⟨h0,h1⟩:=hz;have hn:=DG z.natAbs J;by_cases hz:z<0
 .rw[di,decide_eq_true hz];have w1:=gp (z+1);have w2:=gp (0-(z+1));have w3:IntKind.u64.wrap (0-(z+1))=0-(z+1):=wrap_u64 J J;have w4:IntKind.u64.wrap (0-(z+1)+1)=((z.natAbs:Nat):Int):=by rw[wrap_u64 J J];omega
  generalize aJ z.natAbs=A,((z.natAbs:Nat):Int)=na at *
  refine aD Proofs.Tryz.func59 ?_;refine D ?_ ?_<;>intro h
  .clear h;refine H ?_;rw[w1];refine H ?_;rw[w2];refine H ?_;rw[w3];refine H ?_;rw[w4];refine G hn ?_;exact cA
  .exact absurd hz (bS h)
 .rw[di,decide_eq_false hz];have w:IntKind.u64.wrap z=((z.natAbs:Nat):Int):=by rw[wrap_u64 J J];omega
  generalize aJ z.natAbs=A at *
  refine aD Proofs.Tryz.func59 ?_;refine D ?_ ?_<;>intro h
  .exact absurd (bk h) hz
  .clear h;refine H ?_;rw[w];refine oJ O O O hn O O ?_;exact cA
theorem cf (z:Int)(hz:i64 z):aU 19 [I z] (.agg (eR (ofQ (z:Rat)))):=by
 have h1:=rU z hz;have h2:=rU 1 ⟨Y,Y⟩;rw[Ce];generalize di z=X,di 1=Y0 at *
 refine aD Proofs.Tryz.func19 ?_;refine G h1 ?_;refine G h2 ?_;exact cA
theorem yL (a:RI)(ha:a.l.length<=1000000000):aU 62 [.agg (eI a),.agg (eI a)] (.bool true):=by
 obtain⟨n,l⟩:=a;simp only at ha;have hml:(l.map eU).length=l.length:=ap;have hnn:(n != n)=false:=by cases n<;>rfl
 have main:∀nn:Bool,nn=n->aU 62 [.agg [.bool nn,.sl (l.map eU)],.agg [.bool nn,.sl (l.map eU)]] (.bool true):=by
  intro nn _;cases nn <;>
  .refine aD Proofs.Tryz.func62 ?_;refine D ?_ ?_<;>intro h
   .simp at h
   clear h;refine H ?_;refine ai (fun k=>k<=l.length) (fun k=>[(2,.ptr 2 1 0 0),(3,.ptr 3 1 0 0),(5,I (k:Nat))]) (fun _=>[(2,1,⟨39,2,[eI ⟨_,l⟩],2⟩),(3,1,⟨39,2,[eI ⟨_,l⟩],2⟩)]) (fun k=>l.length-k) 0 (aP _) ah ?_;intro k s hk;refine D ?_ ?_<;>intro h
   .have hlt:k<l.length:=by have:=bk h;simp only[aF]at this;omega
    clear h;obtain⟨x,hx⟩:=ay hlt;have hw:=dN k;refine cX 11 [27,28,29,30,31,32,33,34,35,36,37] ?_;refine aN hx ?_;refine aN hx ?_;refine D ?_ ?_<;>intro h
    .simp at h
    clear h;refine H ?_;exact⟨k+1,hlt,J,O,O,congrArg I hw,ah⟩
   .exact kU
 exact main n O
def RR.le (x:RR)(n:Nat):Prop:=x.n.l.length<=n/\x.d.l.length<=n
theorem oN (x:RR)(hx:x.le 1000000000):aU 21 [.agg (eR x),.agg (eR x)] (.bool true):=by
 have h1:=yL x.n hx.1;have h2:=yL x.d hx.2;obtain⟨xn,xd⟩:=x;refine aD Proofs.Tryz.func21 ?_;refine ax h1 ?_;refine ax h2 ?_;exact kU
theorem Li {p:Rat}{n:Nat}(h:HQ p n)(hn:n<=100000000):aU 21 [.agg (eR (ofQ p)),.agg (eR (ofQ p))] (.bool true):=by
 have:=gS h.ok;exact oN _ ⟨J,J⟩
theorem EK (l:List RR)(hl:l.length<=1000000)(hs:∀x∈l,x.le 1000000000):aU 72 [.sl (l.map eR),.sl (l.map eR)] (.bool true):=by
 have hml:(l.map eR).length=l.length:=ap;refine aD Proofs.Tryz.func72 ?_;refine D ?_ ?_<;>intro h
 .simp at h
 clear h;refine H ?_;refine ai (fun k=>k<=l.length) (fun k=>[(0,.sl (l.map eR)),(1,.sl (l.map eR)),(5,I (k:Nat))]) (fun _=>[]) (fun k=>l.length-k) 0 (aP _) ah ?_;intro k s hk;refine D ?_ ?_<;>intro h
 .have hlt:k<l.length:=cw h;clear h;obtain⟨x,hx⟩:=ay hlt;have hxr:=oN x (hs x (bC hx));have hw:=dN k;refine cX 10 [17,18,19,20,21,22,23,24,25,26] ?_;refine aN hx ?_;refine aN hx ?_;refine ax hxr ?_;refine H ?_;exact⟨k+1,hlt,J,O,O,congrArg I hw,bh⟩
 .exact kU
def QH (x:RR)(n:Nat):Bool:=decide (x.n.l.length<=n)&&decide (x.d.l.length<=n)
theorem wL (x:RR)(n:Nat)(hn:n<=1000000):aU 26 [.agg (eR x),I (n:Nat)] (.bool (QH x n)):=by
 have e1:decide ((((x.n.l.map eU).length:Nat):Int)<=(n:Int))=decide (x.n.l.length<=n):=by rw[decide_eq_decide,aF];omega
 have e2:decide ((((x.d.l.map eU).length:Nat):Int)<=(n:Int))=decide (x.d.l.length<=n):=by rw[decide_eq_decide,aF];omega
 rw[QH,<-e1,<-e2];obtain⟨⟨xn,xl⟩,⟨yn,yl⟩⟩:=x;refine aD Proofs.Tryz.func26 ?_;refine fi ?_ ?_<;>intro h
 .rw[h];clear h;exact kU
 .rw[h];clear h;exact kU
def SD (l:List SR):Prop:=l.length<=9223372036854775807/\∀s∈l,s.k.S.length<=9223372036854775807/\s.k.M.length<=9223372036854775807
open Go.Proofs Go.RowKit
theorem Ghost.takeD {s:St}{k g t n sz:Nat}{T:TypeId}{rows:List (List PV)}(ho:s.own k=(g,some ⟨T,sz,rows,1⟩))(hr:s.reg t=.als k g 0 n)(hn:n=rows.length) :
  Ghost s ((s.setOwn k (g+1) none).putR t (.sl rows)):=by
 intro C a w hX ⟨γ,h⟩;subst hn;obtain⟨h1,hle,_⟩:=h.drop hX ho;refine⟨γ,h1.defers,h1.size,fun r=>?_,h1.sites,h1.inj,h1.base,h1.below,h1.top,h1.kept⟩;show Rep _ (bif Nat.beq r t then _ else(s.setOwn k (g+1) none).reg r) _;by_cases hrt:r=t
 .subst hrt;have hp:=h.regs r;rw[hr]at hp;simp only[ms,cond_true];refine .d ?_;rcases h.als_at hp ho with⟨q1,_,q3,q4⟩|⟨b,cap,cur,q1,q2,q3,q4,q5,q6,q7⟩
  .have:rows=[]:=(h.sites k _ (by rw[ho])).emp q1;rw[this,q4];exact .sl0 _ _
  .obtain⟨cur',g1,g2,g3,g4,g5⟩:=h.site_at ho q1 (h.cells_sz ho q1 q3 q6);have hb:(aB C γ (s.setOwn k (g+1) none) w).ok b:=by
    have hbase:=h.base k _ b (by rw[ho]) q1;refine⟨hbase.2,fun hx=>?_,fun k' c' hc' hb'=>?_⟩
    .have:=hX b hx;omega
    .by_cases hk':k'=k
     .subst hk';rw[ar]at hc';cases hc'
     .rw[aO hk']at hc';exact hk' (h.inj k' k c' _ b hc' (by rw[ho]) hb' q1)
   rw[q2];simp only[gM];refine .sl rows b 0 cap sz (fun i j=>cur'.getD (i*sz+j) undef) hb g2 q4 g4 (fun i j row pv e1 e2=>?_) (fun i j row pv e1 e2=>?_)
   .obtain⟨u,f1,f2,_⟩:=g5 i j row pv e1 e2;have g1:w.heap[b]?=some (.cells cur' T (0,0)):=g1;show w.cell? _=_/\_;rw[ca g1,aM,f1];simp[f1,f2]
   .obtain⟨u,f1,_,f3⟩:=g5 i j row pv e1 e2;have hu:cur'.getD (i*sz+j) undef=u:=by simp[f1]
    simp only[hu];exact hle.drep f3
 .rw[cS hrt];exact h1.regs r
def Oo (l:List Int):List RR:=l.map fun z:Int=>ofQ (z:Rat)
theorem Mz (l:List Int)(hl:l.length<=1000000)(hz:∀z∈l,i64 z):aU 73 [.sl (l.map eN)] (.sl ((Oo l).map eR)):=by
 have hml:(l.map eN).length=l.length:=ap;refine aD Proofs.Tryz.func73 ?_
 ((repeat (first|refine bJ ?_ | refine eg ?_ | refine dO ?_ | refine dH ?_));refine bZ ?_)
 refine lY O trivial ?_
 ((repeat (first|refine bJ ?_ | refine eg ?_ | refine dO ?_ | refine dH ?_));refine bZ ?_)
 (first|refine aC (kF 41 4 1 O O ?_)|refine aC (kE 41 4 1 O O ?_))
 refine H ?_;refine ai (fun k=>k<=l.length) (fun k=>[(0,.sl (l.map eN)),(3,.als 3 (k+1) 0 ((Oo (l.take k)).map eR).length),(4,I (k:Nat))]) (fun k=>[(3,k+1,⟨41,4,(Oo (l.take k)).map eR,1⟩)]) (fun k=>l.length-k) 0 (aP _) ah ?_;intro k s hk;refine D ?_ ?_<;>intro h
 .have hlt:k<l.length:=cw h;clear h;obtain⟨x,hx⟩:=ay hlt;have hxr:=cf x (hz x (bC hx));have hw:=dN k;have hwl:(Oo (l.take k)).length=k:=by rw[Oo,aF,bc];omega
  have hrows:(Oo (l.take (k+1))).map eR=(Oo (l.take k)).map eR++[eR (ofQ (x:Rat))]:=by rw[gG hx,Oo,bj,bj];rfl
  refine aN hx ?_;refine G hxr ?_;refine H ?_;refine aC (bb 1 O O O O O O O O O O O ah O ?_);refine H ?_;refine aC (bO 1 O O O O O O O O O O O ah fW O O aS aS ?_);refine H ?_;refine⟨k+1,hlt,J,O,?_,congrArg I hw,?_,bh⟩
  .rw[hrows];rfl
  .rw[hrows];rfl
 .have hge:k=l.length:=co h;subst hge;clear h;rw[bI];refine H ?_;exact lC O O O ⟨O,O,O⟩ O
end Go.Pv
namespace Go.Pv
open Go.RowKit Go.ChangeShapes Go.WideShapes Go.ChangeAt
section
variable {H0:Type}{enc:TypeId × Value->H0}{P:Program}{L:dj}{w:World}{sp:Nat->Bool}{held:Bool}
def argW (L:dj)(T:TypeId)(c:PV):Prop:=match L T with
 |some r=>bif r.sh.agg then ∃cs,c=.agg cs/\o0 L 12 T cs else o0 L 12 T [c]
 |none=>False
theorem I_ (hL:nt P L){base:Nat}{T:TypeId}{v:Value}{d:DataW H0}{ps:List MemPlace}(hp:kI L 12 T=true)(h:DataW.Trod enc P w 0 sp held T v d ps)(hok:Value.okWide P w .any base T v):∃c,DRep w (fun b=>b<w.heap.size) c v/\argW L T c:=by
 obtain⟨fuel,h⟩:=h;obtain⟨pvs,h1,h2⟩:=w7 hL 12 T _ fuel _ hp h;have hp':=hp;simp only[kI]at hp;split at hp
 .rename_i r hr;have hfit:=hL T r hr;have leaf:r.sh.agg=false->(∃c,pvs=[c])->(v.cells.toList.length=1->v.cells=#[v])->∃c,DRep w (fun b=>b<w.heap.size) c v/\argW L T c:=by
   rintro ha ⟨c,rfl⟩ hv;have hc:=hv (by rw[<-h1.1];rfl);have hd:=h1.2 0 c v O (by rw[hc];rfl);refine⟨c,hd.1,?_⟩;unfold argW;rw[hr];simp only[ha,cond_false];exact h2
  have nagg:(∀cs,v ≠ .agg cs)->v.cells=#[v]:=by
   intro h;cases v<;>first|rfl|exact absurd O (h _)
  have hty:∃r',L T=some r'/\_:=h2;obtain⟨r',hr',hty⟩:=hty;rw[hr]at hr';have hr':=cK hr';subst hr';split at hp
  .rename_i hs;rw[hs]at hty;obtain⟨b,rfl⟩:=hty;obtain⟨b',rfl⟩:∃b',v=.bool b':=by
    have:=okWide_bool (xb hfit hs) hok;exact this
   exact leaf (by rw[hs];rfl) ⟨_,O⟩ (fun _=>rfl)
  .rename_i k hs;rw[hs]at hty;obtain⟨m,rfl,_⟩:=hty;obtain⟨m',rfl⟩:=okWide_int (rL hfit hs) hok;exact leaf (by rw[hs];rfl) ⟨_,O⟩ (fun _=>rfl)
  .rename_i hs;rw[hs]at hty;obtain⟨s,rfl,_⟩:=hty;obtain⟨s',rfl⟩:=okWide_string (oQ hfit hs) hok;exact leaf (by rw[hs];rfl) ⟨_,O⟩ (fun _=>rfl)
  .rename_i e hs;rw[hs]at hty;obtain⟨rows,rfl,_⟩:=hty;obtain⟨a,l,c,rfl⟩:=okWide_slice (kQ hfit hs) hok;exact leaf (by rw[hs];rfl) ⟨_,O⟩ (fun _=>rfl)
  .rename_i fs hs;obtain⟨fs',hu,_⟩:=xe hfit hs;obtain⟨cs,rfl,_⟩:=okWide_struct hu hok;refine⟨.agg pvs,?_,?_⟩
   .have:=DRep.agg (w:=w) (ok:=fun b=>b<w.heap.size) pvs cs.toList h1.1 (fun i c v e1 e2=>(h1.2 i c v e1 e2).1);simpa using this
   .unfold argW;rw[hr];simp only[hs,Sh.agg,cond_true];exact⟨pvs,O,h2⟩
  .cases hp
 .cases hp
theorem xT (hL:nt P L){base:Nat}:∀(ts:List TypeId) (vs:List Value) (ds:List (DataW H0)) (ps:List MemPlace),ts.all (kI L 12)=true->DataW.TrodAll enc P w 0 sp held ts vs ds ps ->
  (∀(j:Nat) t v,ts[j]?=some t->vs[j]?=some v->Value.okWide P w .any base t v) ->
  ∃pargs:List PV,pargs.length=vs.length/\ts.length=vs.length/\ds.length=vs.length/\(∀(i:Nat) (c:PV) (v:Value),pargs[i]?=some c->vs[i]?=some v->DRep w (fun b=>b<w.heap.size) c v)/\∀(i:Nat) t c,ts[i]?=some t->pargs[i]?=some c->argW L t c
 |[],vs,ds,ps,_,h,_=>by
  obtain⟨rfl,rfl,_⟩:=trodAll_nil h;exact⟨[],O,O,O,fun i c v e=>by simp at e,fun i t c e=>by simp at e⟩
 |t::ts,vs,ds,ps,hp,h,hok=>by
  obtain⟨v,vs',d,ds',p,q,rfl,rfl,rfl,h1,h2⟩:=trodAll_cons h;simp only[rc,cm]at hp;obtain⟨c,g1,g2⟩:=I_ hL hp.1 h1 (hok 0 t v O O);obtain⟨pargs,e1,e2,e3,e4,e5⟩:=xT hL ts vs' ds' q hp.2 h2 (fun j t v a b=>hok (j+1) t v (by simpa using a) (by simpa using b));refine⟨c::pargs,by simp[e1],by simp[e2],by simp[e3],fun i c' v' a b=>?_,fun i t' c' a b=>?_⟩
  .cases i with
   |zero=>simp at a b;subst a;subst b;exact g1
   |succ i=>exact e4 i c' v' (by simpa using a) (by simpa using b)
  .cases i with
   |zero=>simp at a b;subst a;subst b;exact g2
   |succ i=>exact e5 i t' c' (by simpa using a) (by simpa using b)
theorem law_stepW [Globs](hL:nt P L)(hl:laidOutB P=true){f:FuncId}{fn:Func}{s:ChangeSpec}{ts:List TypeId}{T:TypeId}(hvars:s.vars=[])(hts:fn.params.toList=ts)(hplain:ts.all (kI L 12)=true)
  (hread:ts.all (fun t=>P.readableRec t&&decide (t<P.types.size))=true) (hres:fn.resultTypes=#[T]) (hT:P.underlying T=some .bool)
  (hspec:∀ds:List (DataW H0),ds.length=ts.length->(s.fn H0 ds).results=[.lit (.bool true)]/\(s.fn H0 ds).args=ds/\(s.fn H0 ds).vars=[])
  (law:∀pargs:List PV,pargs.length=ts.length->(∀(i:Nat) t c,ts[i]?=some t->pargs[i]?=some c->argW L t c)->Ret P .shared f pargs (.bool true))
  {W:World} {base:Nat} {args:Array Value} {ds gs:List (DataW H0)} {before:List MemPlace} (hval:∀(j:Nat) t v,fn.params[j]?=some t->args[j]?=some v->Value.okWide P W .any base t v)
  (hglob:Globs.glob W) (hW:DataW.Whole enc P fn.params.toList s.vars false W args.toList ds gs before) :
  Calls P f args W fun e W'=>∃v,e=.returned v/\s.post enc P fn false true false false W args v W':=by
 have hW':=hW;obtain⟨p,q,hA,hV,hpq,hfz,hnd⟩:=hW;rw[hvars]at hV;obtain⟨rfl,rfl⟩:=trodVars_none hV;rw[hts]at hA;obtain⟨pargs,e1,e2,e3,e4,e5⟩:=xT hL (base:=base) ts _ _ _ hplain hA (fun j t v a b=>hval j t v (by rw[<-hts]at a;simpa using a) (by simpa using b));have hret:=law pargs J e5;have hcall:=hret.2 W (fun _=>False) args.toList hglob (fun b hb=>hb.elim) J (fun i c v a b=>(e4 i c v a b).weaken fun b hb=>⟨hb,fun h=>h⟩);have hargs:args.toList.toArray=args:=ap;rw[hargs]at hcall;refine hcall.mono ?_;rintro e W' ⟨v,rfl,hb,hd⟩;refine⟨v,O,?_⟩;have hv:v=.bool true:=by cases hd;rfl
 subst hv;have hlt:∀x∈p,x.block<W.heap.size:=fun x hx=>by
  have:=hW'.lt x (by rw[hpq];simp[hx]);simpa using this
 obtain⟨s1,s2,s3⟩:=hspec ds J;have hgs:ds++([]:List (DataW H0))=ds:=cu ds;refine⟨ds,[],before,[],p,[],hW',?_,?_,?_,World.keptBut_mono (fun x hx=>hx.elim) (hb.frame (fun _=>False)),fun h=>by cases h⟩
 .rw[hgs,s1,hres];exact trodAll_mk1 (shut_bool hT true)
 .rw[hgs,s2,hts];exact po hl hb ts _ _ _ (fun t ht=>by
   have:=ct.1 hread t ht
   simpa using this) hA hlt
 .rw[hgs,s3,hvars];exact O
end
end Go.Pv
set_option maxHeartbeats 2000000
namespace Go.Pv
attribute [local irreducible] PWP POps PQuiet PSem aE aw aj ak
open Go.Proofs
theorem jw {α:Type}{f:α->List PV}{p:α->Prop}:∀ {rows:List (List PV)},(∀row∈rows,∃x,row=f x/\p x)->∃l:List α,rows=l.map f/\∀x∈l,p x
 |[],_=>⟨[],rfl,fun x h=>by cases h⟩
 |row::rows,h=>by
  obtain⟨x,rfl,hx⟩:=h row ap;obtain⟨l,rfl,hl⟩:=jw (rows:=rows) fun r hr=>h r (by simp[hr]);exact⟨x::l,O,fun y hy=>by
   rcases bV.1 hy with rfl|hy
   .exact hx
   .exact hl y hy⟩
theorem B9 {n:Nat}(h:n<=maxLen):n<=9223372036854775807:=by
 have e:maxLen=9223372036854775807:=Y;omega
theorem Jo {n:Nat}{cs:List PV}(h:o0 lay.get (n+2) 37 cs):∃l:List UInt16,cs=[.sl (l.map eU)]:=by
 obtain⟨rows,rfl,hr⟩:=QV h O;obtain⟨l,rfl,-⟩:=jw (f:=eU) (p:=fun _=>True) fun row hrow=>by
  obtain⟨m,rfl,h1,h2⟩:=w8 (hr row hrow) O;have h1:(0:Int)<=m:=h1;have h2:m<=(65535:Int):=h2;refine⟨UInt16.ofNat m.toNat,?_,bh⟩;rw[eU,bY];congr 2;omega
 exact⟨l,O⟩
theorem OL {n:Nat}{cs:List PV}(h:o0 lay.get (n+3) 39 cs):∃a:RI,cs=eI a:=by
 obtain⟨parts,rfl,hl,hp⟩:=n8 h O
 match parts,hl,hp with
 |[p0,p1],_,hp =>
  obtain⟨b,rfl⟩:=Dl (hp 0 _ p0 O O) O;obtain⟨l,rfl⟩:=Jo (hp 1 _ p1 O O);exact⟨⟨b,l⟩,O⟩
theorem OM {n:Nat}{cs:List PV}(h:o0 lay.get (n+4) 41 cs):∃a:RR,cs=eR a:=by
 obtain⟨parts,rfl,hl,hp⟩:=n8 h O
 match parts,hl,hp with
 |[p0,p1],_,hp =>
  obtain⟨a,rfl⟩:=OL (hp 0 _ p0 O O);obtain⟨b,rfl⟩:=OL (hp 1 _ p1 O O);exact⟨⟨a,b⟩,O⟩
theorem tS {n:Nat}{cs:List PV}(h:o0 lay.get (n+1) 3 cs):∃z:Int,cs=eN z/\i64 z:=by
 obtain⟨m,rfl,h1,h2⟩:=w8 h O;exact⟨m,O,h1,h2⟩
theorem Bw {n:Nat}{cs:List PV}(h:o0 lay.get (n+2) 57 cs):∃l:List Int,cs=[.sl (l.map eN)]/\l.length<=9223372036854775807/\∀z∈l,i64 z:=by
 obtain⟨rows,rfl,hlen,hr⟩:=oO h O;obtain⟨l,rfl,hz⟩:=jw (f:=eN) (p:=i64) fun row hrow=>tS (hr row hrow);exact⟨l,O,by rw[aF]at hlen;exact B9 hlen,hz⟩
structure ArgB (b:BR):Prop where
 w:i64 b.w
 len:SD b.l
 data:Rc b.l
theorem dec_RR {c:PV}(h:argW lay.get 41 c):∃a:RR,c=.agg (eR a):=by
 obtain⟨cs,rfl,h⟩:∃cs,c=.agg cs/\o0 lay.get 12 41 cs:=h;obtain⟨a,rfl⟩:=OM h;exact⟨a,O⟩
abbrev IV:=List UInt8
def jM {α:Type}:List α->(Nat->α->Int)->Int
 |[],_=>0
 |a::l,f=>if f 0 a=0 then jM l (fun i=>f (i+1)) else f 0 a
theorem vF {α:Type}:∀ {l:List α} {f:Nat->α->Int} {i:Nat} {a:α},l[i]?=some a->f i a≠0->(∀j b,j<i->l[j]?=some b->f j b=0)->jM l f=f i a
 |[],f,i,a,h,_,_=>by simp at h
 |b::l,f,0,a,h,he,_=>by
  simp at h;subst h;simp[jM,he]
 |b::l,f,i+1,a,h,he,hn=>by
  have h0:=hn 0 b J O;rw[jM,if_pos h0];exact vF (f:=fun i=>f (i+1)) (by simpa using h) he fun j c hj hc=>hn (j+1) c J (by simpa using hc)
theorem yc {α:Type}:∀ {l:List α} {f:Nat->α->Int},(∀(j:Nat) b,l[j]?=some b->f j b=0)->jM l f=0
 |[],f,_=>rfl
 |b::l,f,hn=>by
  rw[jM,if_pos (hn 0 b O)];exact yc fun j c hc=>hn (j+1) c (by simpa using hc)
theorem lU {α:Type}:∀ {l:List α} {f:Nat->α->Int},jM l f=0->∀(j:Nat) b,l[j]?=some b->f j b=0
 |[],f,_,j,b,h=>by simp at h
 |a::l,f,h,j,b,hb=>by
  rw[jM]at h;split at h
  .rename_i hz;cases j with
   |zero=>simp at hb;subst hb;exact hz
   |succ j=>exact lU h j b (by simpa using hb)
  .contradiction
def ClearE {α:Type}(l:List α)(f:Nat->α->Int)(k:Nat):Prop:=k<=l.length/\∀j b,j<k->l[j]?=some b->f j b=0
theorem ClearE.zero' {α:Type}{l:List α}{p:Nat->α->Int}:ClearE l p 0:=⟨aP _,fun j b h=>by omega⟩
theorem ClearE.succ {α:Type}{l:List α}{p:Nat->α->Int}{k:Nat}{x:α}(h:ClearE l p k)(hx:l[k]?=some x)(hp:p k x=0):ClearE l p (k+1):=by
 have:=(cb hx).1;refine⟨this,fun j b hj hb=>?_⟩;rcases bG j k with hlt|hge
 .exact h.2 j b hlt hb
 .have:j=k:=J;subst this;rw[hx]at hb;cases hb;exact hp
theorem ClearE.found {α:Type}{l:List α}{p:Nat->α->Int}{k:Nat}{x:α}{e:Int}(h:ClearE l p k)(hx:l[k]?=some x)(hp:p k x=e)(he:e≠0):jM l p=e:=by
 subst hp;exact vF hx he h.2
theorem ClearE.none {α:Type}{l:List α}{p:Nat->α->Int}{k:Nat}(h:ClearE l p k)(hk:¬k<l.length):jM l p=0 :=
 yc fun j b hb=>h.2 j b (by have:=(cb hb).1;have:=h.1;omega) hb
def nG (c:UInt8):Bool:=(decide (97<=(c.toNat:Int))&&decide ((c.toNat:Int)<=122))||(decide (65<=(c.toNat:Int))&&decide ((c.toNat:Int)<=90))
def DE (i:Nat)(c:UInt8):Bool:=!nG c&&(decide ((i:Int)=0)||(!decide ((c.toNat:Int)=45)&&(decide ((c.toNat:Int)<48)||decide (57<(c.toNat:Int)))))
def rW (i:Nat)(c:UInt8):Int:=if DE i c then 1 else 0
def dT (s:IV):Bool:=decide (1<=s.length)&&decide (s.length<=12)&&decide (jM s rW=0)
def Rt (c:UInt8):List PV:=[.int .u8 c.toNat]
def aK (n lo hi:Int):Bool:=decide (lo<=n)&&decide (n<=hi)
theorem cH (n lo hi:Int):aU 46 [I n,I lo,I hi] (.bool (aK n lo hi)):=by
 refine aD Proofs.Tryz.func46 ?_;refine fi ?_ ?_<;>intro h
 .refine H ?_;exact fH O O (by simp[aK,bk h])
 .refine H ?_;exact fH O O (by simp[aK,h])
theorem dW (n lo hi:Int):aU 96 [I n,I lo,I hi] (.bool (aK n lo hi)):=by
 refine aD Proofs.Tryz.func96 ?_;refine fi ?_ ?_<;>intro h
 .refine H ?_;exact fH O O (by simp[aK,bk h])
 .refine H ?_;exact fH O O (by simp[aK,h])
theorem pP (s:IV):aU 45 [.str s] (.bool (dT s)):=by
 refine aD Proofs.Tryz.func45 ?_
 repeat' (first|refine iQ O ?_|refine fq O O (fun h=>?_) (fun h=>?_)|refine fp O O (fun h=>?_) (fun h=>?_)|refine fm O O (fun h=>?_) (fun h=>?_))
 .have:=bk h;exact fH O O (by simp[dT];omega)
 have h1:=bS h;refine aV O ?_ ?_<;>intro h
 .have:=bk h;refine H ?_;exact fH O O (by simp[dT];omega)
 have h2:=bS h;have hll:((s.map Rt).length:Int)=s.length:=ap;have hb:s.length<=12:=J;clear h;refine H ?_;refine ci O O (RO O O O O O O) ?_;refine H ?_;refine ai (ClearE s rW) (fun k=>[(15,.fsl (s.map Rt)),(16,I (s.map Rt).length),(17,I k)]) (fun _=>[]) (fun k=>s.length-k) 0 .zero' ah ?_;intro k st hk;have hkl:=hk.1;refine D ?_ ?_<;>intro h
 .have hlt:k<s.length:=by simpa using h
  obtain⟨x,hx⟩:=ay hlt;have hkb:k<12:=J;clear h;refine H ?_;refine ci O O (Nz O O O O O J hx O) ?_;repeat (refine S8 O ?_ ?_;· repeat' constructor)
  refine pZ 100 [(3,I k),(4,.int .u8 x.toNat),(5,.bool (nG x)),(15,.fsl (s.map Rt)),(16,I (s.map Rt).length),(17,I k)] [] ?_ ?_
  .clear h1 h2 hll hb
   repeat' (first|refine iQ O ?_|refine fq O O (fun h=>?_) (fun h=>?_)|refine fp O O (fun h=>?_) (fun h=>?_)|refine fm O O (fun h=>?_) (fun h=>?_))
   all_goals exact⟨O,O,(congrArg PV.bool (by clear hk hx;simp_all [nG]<;>omega)),O,O,O,bh⟩
  clear h1 h2 hll hb;intro s
  repeat' (first|refine iQ O ?_|refine fq O O (fun h=>?_) (fun h=>?_)|refine fp O O (fun h=>?_) (fun h=>?_)|refine fm O O (fun h=>?_) (fun h=>?_))
  all_goals try (refine aV O (fun hc=>?_) (fun hc=>?_))
  all_goals repeat refine iQ O ?_
  all_goals first
   |(
    refine fH O O ?_;have hb:rW k x=1:=by simp_all [rW,DE]<;>omega
    have:=hk.found hx hb J
    simp[dT,this])
   |(
    refine⟨k+1,hk.succ hx (by simp_all [rW,DE]<;>omega),J,O,O,?_,bh⟩
    exact c9 J J)
 .refine H ?_;exact fH O O (by simp only[dT,hk.none (by simpa using h)];simp;omega)
theorem pO (l:IV):aU 83 [.str l] (.bool (dT l)):=by
 refine aD Proofs.Tryz.func83 ?_
 repeat' (first|refine iQ O ?_|refine fq O O (fun h=>?_) (fun h=>?_)|refine fp O O (fun h=>?_) (fun h=>?_)|refine fm O O (fun h=>?_) (fun h=>?_))
 .have:=bk h;exact fH O O (by simp[dT];omega)
 have h1:=bS h;refine aV O ?_ ?_<;>intro h
 .have:=bk h;refine H ?_;exact fH O O (by simp[dT];omega)
 have h2:=bS h;refine H ?_;refine ai (ClearE l rW) (fun k=>[(0,.str l),(3,I k)]) (fun _=>[]) (fun k=>l.length-k) 0 .zero' ah ?_;intro k s hk;refine D ?_ ?_<;>intro h
 .have hlt:k<l.length:=by simpa using h
  obtain⟨x,hx⟩:=ay hlt;have hget:l.getD k 0=x:=by rw[cN,hx];rfl
  refine H ?_;refine lY O ⟨J,J⟩ ?_;have hn:((l.getD (Int.toNat (k:Int)) 0).toNat:Int)=x.toNat:=by rw[be,hget]
  rw[hn];have hkb:k<12:=J;clear h hn h1 h2;refine lY O trivial ?_
  ((repeat (first|refine bJ ?_ | refine eg ?_ | refine dO ?_ | refine dH ?_));refine bZ ?_)
  refine pZ 100 [(0,.str l),(3,I k),(4,.int .u8 x.toNat),(5,.bool (nG x))] [] ?_ ?_
  .repeat' (first|refine iQ O ?_|refine fq O O (fun h=>?_) (fun h=>?_)|refine fp O O (fun h=>?_) (fun h=>?_)|refine fm O O (fun h=>?_) (fun h=>?_))
   all_goals exact⟨O,O,O,(congrArg PV.bool (by simp_all [nG]<;>omega)),bh⟩
  intro s
  repeat' (first|refine iQ O ?_|refine fq O O (fun h=>?_) (fun h=>?_)|refine fp O O (fun h=>?_) (fun h=>?_)|refine fm O O (fun h=>?_) (fun h=>?_))
  all_goals try (refine aV O (fun hc=>?_) (fun hc=>?_))
  all_goals repeat refine iQ O ?_
  all_goals first
   |(
    refine fH O O ?_;have hb:rW k x=1:=by simp_all [rW,DE]<;>omega
    have:=hk.found hx hb J
    simp[dT,this])
   |(
    refine⟨k+1,hk.succ hx (by simp_all [rW,DE]<;>omega),J,O,?_,bh⟩
    exact c9 J J)
 .refine H ?_;exact fH O O (by simp only[dT,hk.none (by simpa using h)];simp;omega)
structure ST where
 x:Int
 w:Int
 L:List Int
 H0:List Int
def eT (t:ST):List PV:=[I t.x,I t.w,.sl (t.L.map eN),.sl (t.H0.map eN)]
def mM (t:ST):Int:=if (aK t.x (-1000000) 1000000&&aK t.w 1 100000)=true then 0 else 2
def oT (t u:ST):Int:=if t.x-u.x<=0 then 10 else if 2*(t.x-u.x)<t.w+u.w then 17 else 0
def qk (L:List Int)(i:Nat)(l:Int):Int:=if aK l 0 100000=true then(if 0<i/\l<=L.getD (i-1) 0 then 10 else 0) else 2
def BK (_:Nat)(h:Int):Int:=if aK h 0 100000=true then 0 else 2
def gP (t:ST):Int:=if aK t.L.length 2 30=true/\(t.H0.length:Int)=(t.L.length:Int)-1 then(if jM t.L (qk t.L)=0 then jM t.H0 BK else jM t.L (qk t.L)) else 11
def ki (t:ST)(u:Option ST):Int:=if mM t=0 then(match u with
 |none=>gP t
 |some u=>if oT t u=0 then gP t else oT t u) else mM t
theorem wu {t:ST}(h:mM t=0):(-1000000<=t.x/\t.x<=1000000)/\(1<=t.w/\t.w<=100000):=by
 rw[mM]at h;split at h
 .rename_i h2;simp[aK]at h2;omega
 .omega
theorem kx {n:Nat}(h:aK (n:Int) 2 30=true):2<=n/\n<=30:=by
 simp[aK]at h;omega
theorem La (t:ST):aU 97 [.agg (eT t)] (I (mM t)):=by
 have h1:=dW t.x (-1000000) 1000000;have h2:=dW t.w 1 100000;rw[mM];generalize aK t.x (-1000000) 1000000=p,aK t.w 1 100000=q at *
 obtain⟨x,w,L,H0⟩:=t;simp only at *
 cases p
 .refine aD Proofs.Tryz.func97 ?_;refine ax h1 ?_;exact cB
 .cases q;all_goals
   refine aD Proofs.Tryz.func97 ?_;refine ax h1 ?_;refine ax h2 ?_;exact cB
theorem Ie (t:ST)(hL:t.L.length<=9223372036854775807)(hH:t.H0.length<=9223372036854775807):aU 98 [.agg (eT t)] (I (gP t)):=by
 generalize hf:gP t=E;have hml:((t.L.map eN).length:Int)=t.L.length:=ap;have hmh:((t.H0.map eN).length:Int)=t.H0.length:=ap;refine aD Proofs.Tryz.func98 ?_;refine H ?_;rw[hml];refine LF O O O ?_ ?_<;>intro h
 .have h1:=bk h;clear h;have hE:11=E:=by rw[<-hf,gP,if_neg (fun g=>by have:=kx g.1;omega)]
  subst hE;exact cB
 have h1:=bS h;clear h;refine H ?_;rw[hml];refine LF O O O ?_ ?_<;>intro h
 .have h2:=bk h;clear h;have hE:11=E:=by rw[<-hf,gP,if_neg (fun g=>by have:=kx g.1;omega)]
  subst hE;exact cB
 have h2:=bS h;clear h;have hwl:=gp ((t.L.length:Int)-1);refine H ?_;rw[hml,hmh,hwl];refine D ?_ ?_<;>intro h
 .have h3:¬(t.H0.length:Int)=(t.L.length:Int)-1:=by simpa using h
  clear h;have hE:11=E:=by rw[<-hf,gP,if_neg (fun g=>by have:=g.2;omega)]
  subst hE;exact cB
 have c2:(t.H0.length:Int)=(t.L.length:Int)-1:=by simpa using h
 clear h;rw[gP,if_pos ⟨by simp[aK];omega,c2⟩]at hf;refine H ?_;refine ai (ClearE t.L (qk t.L)) (fun k=>[(1,.ptr 1 1 0 0),(3,I (k:Nat))]) (fun _=>[(1,1,⟨115,4,[eT t],2⟩)]) (fun k=>t.L.length-k) 0 .zero' ah ?_;intro k s hk;have hkl:=hk.1;refine D ?_ ?_<;>intro h
 .have hlt:k<t.L.length:=cw h;clear h;obtain⟨x,hx⟩:=ay hlt;have h1:=dW x 0 100000;have hw:=dN k;refine aN hx ?_;refine ax h1 ?_;by_cases d1:aK x 0 100000=true
  rotate_left
  .have hv:qk t.L k x=2:=by rw[qk,if_neg d1]
   have hfl:=hk.found hx hv Y;have hE:2=E:=by rw[<-hf,hfl];rfl
   subst hE;rw[j6]at d1;rw[d1];exact cB
  rw[d1];refine cX 16 [39,40,41,42,43,44,45,46,47,48,49,50,51,52,53,54] ?_;refine fi ?_ ?_<;>intro h
  rotate_left
  .have h0:k=0:=co h;clear h;have hv:qk t.L k x=0:=by rw[qk,if_pos d1,if_neg J]
   refine H ?_;exact⟨k+1,hk.succ hx hv,J,O,congrArg I hw,O,bh⟩
  .have h0:0<k:=cw h;clear h;obtain⟨j,rfl⟩:∃j,k=j+1:=⟨k-1,J⟩;obtain⟨y,hy⟩:=ay (show j<t.L.length by omega);have hgy:t.L.getD j 0=y:=by rw[cN,hy];rfl
   have hwj:IntKind.i64.wrap (((j+1:Nat):Int)-1)=(j:Nat):=by rw[wrap_i64 J J];omega
   refine aN hx ?_;refine H ?_;rw[hwj];refine tp O O O O O O O hy O ?_;refine D ?_ ?_<;>intro h
   .have hle:x<=y:=bk h;clear h;have hv:qk t.L (j+1) x=10:=by rw[qk,if_pos d1,if_pos ⟨J,by rw[iC,hgy];exact hle⟩]
    have hfl:=hk.found hx hv Y;have hE:10=E:=by rw[<-hf,hfl];rfl
    subst hE;exact cB
   .have hle:¬x<=y:=bS h;clear h;have hv:qk t.L (j+1) x=0:=by rw[qk,if_pos d1,if_neg (fun g=>hle (by have:=g.2;rw[iC,hgy]at this;exact this))]
    refine H ?_;exact⟨j+1+1,hk.succ hx hv,J,O,congrArg I hw,O,bh⟩
 .have hge:¬k<t.L.length:=co h;clear h;rw[hk.none hge,if_pos O]at hf;refine H ?_;refine ai (ClearE t.H0 BK) (fun k=>[(1,.ptr 1 1 0 0),(4,I (k:Nat))]) (fun _=>[(1,1,⟨115,4,[eT t],2⟩)]) (fun k=>t.H0.length-k) 0 .zero' ah ?_;intro k s hk;have hkl:=hk.1;refine D ?_ ?_<;>intro h
  .have hlt:k<t.H0.length:=cw h;clear h;obtain⟨x,hx⟩:=ay hlt;have h1:=dW x 0 100000;have hw:=dN k;refine aN hx ?_;refine ax h1 ?_;by_cases d1:aK x 0 100000=true
   .have hv:BK k x=0:=by rw[BK,if_pos d1]
    rw[d1];refine H ?_;exact⟨k+1,hk.succ hx hv,J,O,congrArg I hw,O,bh⟩
   .have hv:BK k x=2:=by rw[BK,if_neg d1]
    have hfl:=hk.found hx hv Y;have hE:2=E:=by rw[<-hf,hfl]
    subst hE;rw[j6]at d1;rw[d1];exact cB
  .have hge:¬k<t.H0.length:=co h;clear h;rw[hk.none hge]at hf;subst hf;exact cB
theorem rH (t:ST)(hL:t.L.length<=9223372036854775807)(hH:t.H0.length<=9223372036854775807):aU 47 [.agg (eT t),.raw (.pointer none)] (I (ki t none)):=by
 have h1:=cH t.x (-1000000) 1000000;have h2:=cH t.w 1 100000;generalize hf:ki t none=E;cases hp1:aK t.x (-1000000) 1000000 with
 |false =>
  have hE:2=E:=by rw[<-hf,ki,mM,hp1];rfl
  subst hE;rw[hp1]at h1;refine aD Proofs.Tryz.func47 ?_;refine ax h1 ?_;exact cB
 |true =>
 cases hp2:aK t.w 1 100000 with
 |false =>
  have hE:2=E:=by rw[<-hf,ki,mM,hp1,hp2];rfl
  subst hE;rw[hp1]at h1;rw[hp2]at h2;refine aD Proofs.Tryz.func47 ?_;refine ax h1 ?_;refine ax h2 ?_;exact cB
 |true =>
 have hpt:mM t=0:=by rw[mM,hp1,hp2];rfl
 rw[hp1]at h1;rw[hp2]at h2;rw[ki,if_pos hpt]at hf;refine aD Proofs.Tryz.func47 ?_;refine ax h1 ?_;refine ax h2 ?_;refine H ?_;have hin:=cH t.L.length 2 30;have hml:((t.L.map eN).length:Int)=t.L.length:=ap;have hmh:((t.H0.map eN).length:Int)=t.H0.length:=ap;rw[hml];refine Q6 O O O hin O O O ?_;by_cases c1:aK t.L.length 2 30=true
 rotate_left
 .rw[j6]at c1;rw[c1];have hE:11=E:=by rw[<-hf,gP,if_neg (by rw[c1];simp)]
  subst hE;exact cB
 obtain⟨g1,g2⟩:=kx c1;have hwl:=gp ((t.L.length:Int)-1);rw[c1];refine H ?_;rw[hml,hmh,hwl];refine D ?_ ?_<;>intro h
 .have hE:11=E:=by rw[<-hf,gP,if_neg (fun g=>absurd g.2 (by simpa using h))]
  subst hE;exact cB
 have c2:(t.H0.length:Int)=(t.L.length:Int)-1:=by simpa using h
 clear h;rw[gP,if_pos ⟨c1,c2⟩]at hf;refine H ?_;rw[hml];refine ai (ClearE t.L (qk t.L)) (fun k=>[(2,.ptr 2 1 0 0),(59,.sl (t.L.map eN)),(60,I t.L.length),(61,I (k:Nat))]) (fun _=>[(2,1,⟨115,4,[eT t],2⟩)]) (fun k=>t.L.length-k) 0 .zero' ⟨O,O,by rw[<-hml];rfl,ah⟩ ?_;intro k s hk;have hkl:=hk.1;refine D ?_ ?_<;>intro h
 .have hlt:k<t.L.length:=cw h;clear h;obtain⟨x,hx⟩:=ay hlt;have h1:=cH x 0 100000;have hw:=dN k;refine aN hx ?_;refine ax h1 ?_;by_cases d1:aK x 0 100000=true
  rotate_left
  .have hv:qk t.L k x=2:=by rw[qk,if_neg d1]
   have hfl:=hk.found hx hv Y;have hE:2=E:=by rw[<-hf,hfl];rfl
   subst hE;rw[j6]at d1;rw[d1];exact cB
  rw[d1];refine fi ?_ ?_<;>intro h
  rotate_left
  .have h0:k=0:=co h;clear h;have hv:qk t.L k x=0:=by rw[qk,if_pos d1,if_neg J]
   refine H ?_;exact⟨k+1,hk.succ hx hv,J,O,O,O,congrArg I hw,O,bh⟩
  .have h0:0<k:=cw h;clear h;obtain⟨j,rfl⟩:∃j,k=j+1:=⟨k-1,J⟩;obtain⟨y,hy⟩:=ay (show j<t.L.length by omega);have hgy:t.L.getD j 0=y:=by rw[cN,hy];rfl
   have hwj:IntKind.i64.wrap (((j+1:Nat):Int)-1)=(j:Nat):=by rw[wrap_i64 J J];omega
   refine H ?_;rw[hwj];refine tp O O O O O O O hy O ?_;refine D ?_ ?_<;>intro h
   .have hle:x<=y:=bk h;clear h;have hv:qk t.L (j+1) x=10:=by rw[qk,if_pos d1,if_pos ⟨J,by rw[iC,hgy];exact hle⟩]
    have hfl:=hk.found hx hv Y;have hE:10=E:=by rw[<-hf,hfl];rfl
    subst hE;exact cB
   .have hle:¬x<=y:=bS h;clear h;have hv:qk t.L (j+1) x=0:=by rw[qk,if_pos d1,if_neg (fun g=>hle (by have:=g.2;rw[iC,hgy]at this;exact this))]
    refine H ?_;exact⟨j+1+1,hk.succ hx hv,J,O,O,O,congrArg I hw,O,bh⟩
 .have hge:¬k<t.L.length:=co h;clear h;rw[hk.none hge,if_pos O]at hf;refine H ?_;rw[hmh];refine ai (ClearE t.H0 BK) (fun k=>[(2,.ptr 2 1 0 0),(83,.sl (t.H0.map eN)),(84,I t.H0.length),(85,I (k:Nat))]) (fun _=>[(2,1,⟨115,4,[eT t],2⟩)]) (fun k=>t.H0.length-k) 0 .zero' ⟨O,O,by rw[<-hmh];rfl,ah⟩ ?_;intro k s hk;have hkl:=hk.1;refine D ?_ ?_<;>intro h
  .have hlt:k<t.H0.length:=cw h;clear h;obtain⟨x,hx⟩:=ay hlt;have h1:=cH x 0 100000;have hw:=dN k;refine aN hx ?_;refine ax h1 ?_;by_cases d1:aK x 0 100000=true
   .have hv:BK k x=0:=by rw[BK,if_pos d1]
    rw[d1];refine H ?_;exact⟨k+1,hk.succ hx hv,J,O,O,O,congrArg I hw,O,bh⟩
   .have hv:BK k x=2:=by rw[BK,if_neg d1]
    have hfl:=hk.found hx hv Y;have hE:2=E:=by rw[<-hf,hfl]
    subst hE;rw[j6]at d1;rw[d1];exact cB
  .have hge:¬k<t.H0.length:=co h;clear h;rw[hk.none hge]at hf;subst hf;exact cB
theorem AX (t u:ST)(hu:mM u=0)(hL:t.L.length<=9223372036854775807)(hH:t.H0.length<=9223372036854775807):aU 47 [.agg (eT t),.dref (eT u) 0] (I (ki t (some u))):=by
 have h1:=cH t.x (-1000000) 1000000;have h2:=cH t.w 1 100000;generalize hf:ki t (some u)=E;cases hp1:aK t.x (-1000000) 1000000 with
 |false =>
  have hE:2=E:=by rw[<-hf,ki,mM,hp1];rfl
  subst hE;rw[hp1]at h1;refine aD Proofs.Tryz.func47 ?_;refine ax h1 ?_;exact cB
 |true =>
 cases hp2:aK t.w 1 100000 with
 |false =>
  have hE:2=E:=by rw[<-hf,ki,mM,hp1,hp2];rfl
  subst hE;rw[hp1]at h1;rw[hp2]at h2;refine aD Proofs.Tryz.func47 ?_;refine ax h1 ?_;refine ax h2 ?_;exact cB
 |true =>
 have hpt:mM t=0:=by rw[mM,hp1,hp2];rfl
 rw[hp1]at h1;rw[hp2]at h2;rw[ki,if_pos hpt]at hf;obtain⟨⟨a1,a2⟩,a3,a4⟩:=wu hpt;obtain⟨⟨b1,b2⟩,b3,b4⟩:=wu hu;have k1:=gp (t.x-u.x);have k2:=gp (2*(t.x-u.x));have k3:=gp (t.w+u.w);refine aD Proofs.Tryz.func47 ?_;refine ax h1 ?_;refine ax h2 ?_;refine cX 8 [22,23,24,25,26,27,28,5] ?_;refine H ?_;rw[k1];refine D ?_ ?_<;>intro h
 .have d1:t.x-u.x<=0:=bk h;clear h;have hb:oT t u=10:=by rw[oT,if_pos d1]
  have hE:10=E:=by rw[<-hf,hb];rfl
  subst hE;exact cB
 have d1:¬t.x-u.x<=0:=bS h;clear h;refine cX 11 [33,34,35,36,37,38,39,40,41,42,32] ?_;refine H ?_;rw[k2];refine H ?_;rw[k3];refine D ?_ ?_<;>intro h
 .have d2:2*(t.x-u.x)<t.w+u.w:=bk h;clear h;have hb:oT t u=17:=by rw[oT,if_neg d1,if_pos d2]
  have hE:17=E:=by rw[<-hf,hb];rfl
  subst hE;exact cB
 have d2:¬2*(t.x-u.x)<t.w+u.w:=bS h;clear h;have hb:oT t u=0:=by rw[oT,if_neg d1,if_neg d2]
 rw[if_pos hb]at hf;clear k1 k2 k3 a1 a2 a3 a4 b1 b2 b3 b4 hb d1 d2 hu;refine H ?_;have hin:=cH t.L.length 2 30;have hml:((t.L.map eN).length:Int)=t.L.length:=ap;have hmh:((t.H0.map eN).length:Int)=t.H0.length:=ap;rw[hml];refine Q6 O O O hin O O O ?_;by_cases c1:aK t.L.length 2 30=true
 rotate_left
 .rw[j6]at c1;rw[c1];have hE:11=E:=by rw[<-hf,gP,if_neg (by rw[c1];simp)]
  subst hE;exact cB
 obtain⟨g1,g2⟩:=kx c1;have hwl:=gp ((t.L.length:Int)-1);rw[c1];refine H ?_;rw[hml,hmh,hwl];refine D ?_ ?_<;>intro h
 .have hE:11=E:=by rw[<-hf,gP,if_neg (fun g=>absurd g.2 (by simpa using h))]
  subst hE;exact cB
 have c2:(t.H0.length:Int)=(t.L.length:Int)-1:=by simpa using h
 clear h;rw[gP,if_pos ⟨c1,c2⟩]at hf;refine H ?_;rw[hml];refine ai (ClearE t.L (qk t.L)) (fun k=>[(2,.ptr 2 1 0 0),(59,.sl (t.L.map eN)),(60,I t.L.length),(61,I (k:Nat))]) (fun _=>[(2,1,⟨115,4,[eT t],2⟩)]) (fun k=>t.L.length-k) 0 .zero' ⟨O,O,by rw[<-hml];rfl,ah⟩ ?_;intro k s hk;have hkl:=hk.1;refine D ?_ ?_<;>intro h
 .have hlt:k<t.L.length:=cw h;clear h;obtain⟨x,hx⟩:=ay hlt;have h1:=cH x 0 100000;have hw:=dN k;refine aN hx ?_;refine ax h1 ?_;by_cases d1:aK x 0 100000=true
  rotate_left
  .have hv:qk t.L k x=2:=by rw[qk,if_neg d1]
   have hfl:=hk.found hx hv Y;have hE:2=E:=by rw[<-hf,hfl];rfl
   subst hE;rw[j6]at d1;rw[d1];exact cB
  rw[d1];refine fi ?_ ?_<;>intro h
  rotate_left
  .have h0:k=0:=co h;clear h;have hv:qk t.L k x=0:=by rw[qk,if_pos d1,if_neg J]
   refine H ?_;exact⟨k+1,hk.succ hx hv,J,O,O,O,congrArg I hw,O,bh⟩
  .have h0:0<k:=cw h;clear h;obtain⟨j,rfl⟩:∃j,k=j+1:=⟨k-1,J⟩;obtain⟨y,hy⟩:=ay (show j<t.L.length by omega);have hgy:t.L.getD j 0=y:=by rw[cN,hy];rfl
   have hwj:IntKind.i64.wrap (((j+1:Nat):Int)-1)=(j:Nat):=by rw[wrap_i64 J J];omega
   refine H ?_;rw[hwj];refine tp O O O O O O O hy O ?_;refine D ?_ ?_<;>intro h
   .have hle:x<=y:=bk h;clear h;have hv:qk t.L (j+1) x=10:=by rw[qk,if_pos d1,if_pos ⟨J,by rw[iC,hgy];exact hle⟩]
    have hfl:=hk.found hx hv Y;have hE:10=E:=by rw[<-hf,hfl];rfl
    subst hE;exact cB
   .have hle:¬x<=y:=bS h;clear h;have hv:qk t.L (j+1) x=0:=by rw[qk,if_pos d1,if_neg (fun g=>hle (by have:=g.2;rw[iC,hgy]at this;exact this))]
    refine H ?_;exact⟨j+1+1,hk.succ hx hv,J,O,O,O,congrArg I hw,O,bh⟩
 .have hge:¬k<t.L.length:=co h;clear h;rw[hk.none hge,if_pos O]at hf;refine H ?_;rw[hmh];refine ai (ClearE t.H0 BK) (fun k=>[(2,.ptr 2 1 0 0),(83,.sl (t.H0.map eN)),(84,I t.H0.length),(85,I (k:Nat))]) (fun _=>[(2,1,⟨115,4,[eT t],2⟩)]) (fun k=>t.H0.length-k) 0 .zero' ⟨O,O,by rw[<-hmh];rfl,ah⟩ ?_;intro k s hk;have hkl:=hk.1;refine D ?_ ?_<;>intro h
  .have hlt:k<t.H0.length:=cw h;clear h;obtain⟨x,hx⟩:=ay hlt;have h1:=cH x 0 100000;have hw:=dN k;refine aN hx ?_;refine ax h1 ?_;by_cases d1:aK x 0 100000=true
   .have hv:BK k x=0:=by rw[BK,if_pos d1]
    rw[d1];refine H ?_;exact⟨k+1,hk.succ hx hv,J,O,O,O,congrArg I hw,O,bh⟩
   .have hv:BK k x=2:=by rw[BK,if_neg d1]
    have hfl:=hk.found hx hv Y;have hE:2=E:=by rw[<-hf,hfl]
    subst hE;rw[j6]at d1;rw[d1];exact cB
  .have hge:¬k<t.H0.length:=co h;clear h;rw[hk.none hge]at hf;subst hf;exact cB
structure LR where
 nm:List UInt8
 m:Int
 x:Int
 z:Int
 f:Int
def eLd (w:LR):List PV:=[.str w.nm,I w.m,I w.x,I w.z,I w.f]
def Nh (w:LR)(least:Int):Bool:=aK w.m least 1000000000&&aK w.x (-1000000) 1000000&&aK w.z (-100000) 100000&&aK w.f 0 1000000000
def si (w:LR)(least:Int):Int:=if Nh w least=true then 0 else 2
def jg (w:LR)(before:List LR)(least:Int):Int:=if dT w.nm=true then(if w.nm∈before.map (·.nm) then 5 else si w least) else 4
theorem tl (w:LR)(least:Int):aU 110 [.agg (eLd w),I least] (I (si w least)):=by
 have h1:=cH w.m least 1000000000;have h2:=cH w.x (-1000000) 1000000;have h3:=cH w.z (-100000) 100000;have h4:=cH w.f 0 1000000000;rw[si,Nh];generalize aK w.m least 1000000000=p1,aK w.x (-1000000) 1000000=p2,aK w.z (-100000) 100000=p3,aK w.f 0 1000000000=p4 at *
 obtain⟨nm,m,x,z,f⟩:=w;simp only at *
 cases p1
 .refine aD Proofs.Tryz.func110 ?_;refine ax h1 ?_;exact cB
 .cases p2
  .refine aD Proofs.Tryz.func110 ?_;refine ax h1 ?_;refine ax h2 ?_;exact cB
  .cases p3
   .refine aD Proofs.Tryz.func110 ?_;refine ax h1 ?_;refine ax h2 ?_;refine ax h3 ?_;exact cB
   .cases p4;all_goals
     refine aD Proofs.Tryz.func110 ?_;refine ax h1 ?_;refine ax h2 ?_;refine ax h3 ?_;refine ax h4 ?_;exact cB
theorem yH (w:LR)(B:List LR)(hB:B.length<=1000000)(least:Int):aU 99 [.agg (eLd w),.sl (B.map eLd),I least] (I (jg w B least)):=by
 have h0:=pO w.nm;have h1:=dW w.m least 1000000000;have h2:=dW w.x (-1000000) 1000000;have h3:=dW w.z (-100000) 100000;have h4:=dW w.f 0 1000000000;have hmB:(B.map eLd).length=B.length:=aF _;generalize hf:jg w B least=E;rw[jg]at hf;obtain⟨nm,m,x,z,f⟩:=w;simp only at *
 refine aD Proofs.Tryz.func99 ?_;refine ax h0 ?_;cases hn:dT nm with
 |false =>
  rw[hn]at hf;subst hf;exact cB
 |true =>
  rw[hn,if_pos O]at hf;refine H ?_;refine ai (fun k:Nat=>k<=B.length/\∀j u,j<k->B[j]?=some u->u.nm≠nm) (fun k=>[(1,.sl (B.map eLd)),(2,I least),(3,.ptr 3 1 0 0),(7,I (k:Nat))]) (fun _=>[(3,1,⟨24,5,[eLd ⟨nm,m,x,z,f⟩],2⟩)]) (fun k=>B.length-k) 0 ⟨aP _,fun j u hj=>absurd hj J⟩ ah ?_;rintro k s ⟨hk,hall⟩;refine D ?_ ?_<;>intro h
  .have hlt:k<B.length:=by have:=bk h;simp only[hmB]at this;omega
   clear h;obtain⟨u,hu⟩:=ay hlt;have hw:=dN k;refine cX 8 [18,19,20,21,22,23,24,25] ?_;refine aN hu ?_;refine D ?_ ?_<;>intro h
   .have he:u.nm=nm:=by simpa using h
    clear h;rw[if_pos (aW.2 ⟨u,bC hu,he⟩)]at hf;subst hf;exact cB
   .have he:u.nm≠nm:=by simpa using h
    clear h;refine H ?_;refine⟨k+1,⟨hlt,fun j v hj hv=>?_⟩,J,O,O,O,congrArg I hw,O,bh⟩;rcases bG j k with g|g
    .exact hall j v g hv
    .rw[show j=k by omega,hu]at hv;cases hv;exact he
  .have hge:k=B.length:=by have:=bS h;simp only[hmB]at this;omega
   clear h;subst hge;rw[if_neg (fun g=>by
    obtain⟨u,hu,he⟩:=aW.1 g;obtain⟨j,hj⟩:=i5.1 hu
    exact hall j u (cb hj).1 hj he),si,Nh]at hf
   generalize aK m least 1000000000=p1,aK x (-1000000) 1000000=p2,aK z (-100000) 100000=p3,aK f 0 1000000000=p4 at *
   subst hf;refine ax h1 ?_;cases p1
   .exact cB
   refine ax h2 ?_;cases p2
   .exact cB
   refine ax h3 ?_;cases p3
   .exact cB
   refine ax h4 ?_;cases p4;all_goals
    exact cB
theorem HR (z k:PV)(row:List PV)(rows:List (List PV)):sf z k (row::rows)=bif IX k row then row.getD 1 z else sf z k rows:=by
 simp only[sf,rR];cases IX k row
 .simp only[cond_false];cases rR k rows<;>rfl
 .rfl
theorem HP (key v:PV)(row:List PV)(rows:List (List PV)):we key v (row::rows)=bif IX key row then row.set 1 v::rows else row::we key v rows:=by
 unfold we;cases h:IX key row with
 |true=>simp[rR,h]
 |false =>
  simp only[rR,h,cond_false];cases hm:rR key rows with
  |none=>simp
  |some i =>
   have hi:=At hm;simp[bX hi]
theorem Iw [Globs]{P:Program}{L:dj}{s:St}{T:TypeId}{x y v:Operand}{ty:TypeId}{pos:String}{af:Array Edge}{K:St->Prop}(h:POp P L s ⟨none,.mapUpdate T x y v,ty,pos,af,none⟩ K):Sm P L s ⟨none,.insert T x y v,ty,pos,af,none⟩ K:=by
 intro C a w Q hG hs hN;have h2:Oper.wp P ⟨none,.mapUpdate T x y v,ty,pos,af,none⟩ a w (fun a' w'=>∃s',SimE C s' a' w'/\K s') Q:=POp.wp (o:=⟨none,.mapUpdate T x y v,ty,pos,af,none⟩) hG hs hN h fun s' _ _ h' hk=>⟨s',h',hk⟩;exact h2
def OS (n:IV):List PV:=[.str n,.bool true]
theorem Gi (d:IV):∀m:List IV,sf (.bool false) (.str d) (m.map OS) = .bool (decide (d∈m))
 |[]=>by simp;rfl
 |e::m=>by
  rw[cn,HR,Gi d m];have:IX (.str d) (OS e)=decide (e=d):=O;rw[this];by_cases h:e=d
  .have h2:d∈e::m:=by rw[h];exact ez
   rw[decide_eq_true h,decide_eq_true h2];rfl
  .rw[decide_eq_false h];have:decide (d∈e::m)=decide (d∈m):=by rw[decide_eq_decide,bV];exact⟨fun g=>g.resolve_left fun e'=>h e'.symm,.inr⟩
   rw[this];rfl
theorem Gf (d:IV):∀m:List IV,d∉m->we (.str d) (.bool true) (m.map OS)=(m++[d]).map OS
 |[],_=>rfl
 |e::m,h=>by
  have h1:¬e=d:=fun g=>h (by simp[g]);have h2:d∉m:=fun g=>h (ff _ g);rw[cn,HP,Gf d m h2];have:IX (.str d) (OS e)=decide (e=d):=O;rw[this,decide_eq_false h1];rfl
theorem BU (m:List IV):pe .str (m.map OS)=true:=by
 induction m with
 |nil=>rfl
 |cons e m ih=>rw[cn];exact ih
structure SHP where
 nm:IV
 len:Int
 st:List ST
 light:LR
 it:List LR
def fx (s:SHP):List PV:=[.str s.nm,I s.len,.sl (s.st.map eT)]++eLd s.light++[.sl (s.it.map eLd)]
def P8 (light:LR)(it:List LR)(i:Nat)(w:LR):Int:=jg w (light::it.take i) 0
def pU (s:SHP):Int:=if jg s.light [] 1=0 then(if 60<s.it.length then 8 else jM s.it (P8 s.light s.it)) else jg s.light [] 1
theorem u_ (s:SHP)(h1:s.it.length<=9223372036854775807):aU 48 [.agg (fx s)] (I (pU s)):=by
 have n0:=pP s.light.nm;have n1:=tl s.light 1;have hmi:(s.it.map eLd).length=s.it.length:=aF _;generalize hf:pU s=E;rw[pU]at hf;have hl:jg s.light [] 1=if dT s.light.nm=true then si s.light 1 else 4:=by rw[jg];simp
 rw[hl]at hf;clear hl;obtain⟨nm,len,st,light,it⟩:=s;simp only at *
 refine aD Proofs.Tryz.func48 ?_;refine ax n0 ?_;cases hn:dT light.nm with
 |false =>
  rw[hn]at hf;subst hf;exact cB
 |true =>
  rw[hn,if_pos O]at hf;refine ax n1 ?_;by_cases he:si light 1=0
  rotate_left
  .rw[if_neg he]at hf;generalize si light 1=e at *
   subst hf;refine D ?_ ?_<;>intro h
   .clear h;exact cB
   .simp at h;exact absurd h he
  rw[if_pos he]at hf;rw[he];refine H ?_;rw[hmi];refine aV O ?_ ?_<;>intro h
  .rw[if_pos (by have:=bk h;omega)]at hf;subst hf;exact cB
  have h60:¬60<it.length:=co h;clear h;rw[if_neg h60]at hf
  (refine cV 8 ?_;refine aR 4 ?_)
  refine aC (Nl O ?_);iterate 3 refine iQ O ?_
  refine bJ ?_;refine br O (Iw (Ku 0 O O O O O O O O O O O O ?_));refine aT ?_;refine H ?_;rw[hmi];refine aQ [(1,.ptr 1 1 0 0),(4,.mp 23 1),(29,.sl (it.map eLd)),(30,I it.length),(31,I ((0:Nat):Int))] [(1,1,⟨27,9,[fx ⟨nm,len,st,light,it⟩],2⟩),(23,1,⟨189,0,[OS light.nm],0⟩)] ah ?_;intro s0;refine ai (ClearE it (P8 light it)) (fun k=>[(1,.ptr 1 1 0 0),(4,.mp 23 1),(29,.sl (it.map eLd)),(30,I it.length),(31,I (k:Nat))]) (fun k=>[(1,1,⟨27,9,[fx ⟨nm,len,st,light,it⟩],2⟩),(23,1,⟨189,0,((light::it.take k).map (·.nm)).map OS,0⟩)]) (fun k=>it.length-k) 0 .zero' ah ?_;intro k s1 hk;have hkl:=hk.1;refine D ?_ ?_<;>intro h
  .have hlt:k<it.length:=cw h;clear h;obtain⟨w,hx⟩:=ay hlt;have m0:=pP w.nm;have m1:=tl w 0;have hw:=dN k;have hsn:(light::it.take (k+1)).map (·.nm)=(light::it.take k).map (·.nm)++[w.nm]:=by rw[bR hx];simp
   have hv:P8 light it k w=if dT w.nm=true then(if w.nm∈(light::it.take k).map (·.nm) then 5 else si w 0) else 4:=O
   generalize (light::it.take k).map (·.nm)=D0 at *
   have hlook:=Gi w.nm D0;obtain⟨wn,wm,wx,wz,wf⟩:=w;simp only at *
   refine aN hx ?_;refine ax m0 ?_;cases hn2:dT wn with
   |false =>
    rw[hn2,if_neg Y]at hv;have hfl:=hk.found hx hv Y;rw[hfl]at hf;subst hf;exact cB
   |true =>
    rw[hn2,if_pos O]at hv;refine H ?_;refine ci O O (Qo O O O O O aH O O O O O (BU _)) ?_;rw[hlook];by_cases hd:wn∈D0
    .rw[if_pos hd]at hv;rw[decide_eq_true hd];have hfl:=hk.found hx hv Y;rw[hfl]at hf;subst hf;exact cB
    .rw[if_neg hd]at hv;rw[decide_eq_false hd];have hput:=Gf wn D0 hd;refine H ?_;refine eF (Ku 0 O O O O O O O O O (BU _) O O ?_);refine ax m1 ?_;by_cases hz:si ⟨wn,wm,wx,wz,wf⟩ 0=0
     rotate_left
     .have hfl:=hk.found hx hv hz;rw[hfl]at hf;generalize si ⟨wn,wm,wx,wz,wf⟩ 0=e at *
      subst hf;refine D ?_ ?_<;>intro h
      .clear h;exact cB
      .simp at h;exact absurd h hz
     rw[hz]at hv;rw[hz];refine H ?_;refine⟨k+1,hk.succ hx hv,J,O,O,O,O,congrArg I hw,O,?_,bh⟩;rw[hsn,<-hput];rfl
  .have hge:¬k<it.length:=co h;clear h;rw[hk.none hge]at hf;subst hf;exact cB
def Cw (st:List ST)(i:Nat):Option ST:=if i=0 then none else st[i-1]?
def Dx (st:List ST)(i:Nat)(t:ST):Int:=ki t (Cw st i)
def f7 (s:SHP):Int:=if dT s.nm=true then(if aK s.len 1 1000000=true/\aK s.st.length 1 40=true then(if jM s.st (Dx s.st)=0 then pU s else jM s.st (Dx s.st)) else 2) else 4
structure SHP.Len (s:SHP):Prop where
 st:s.st.length<=9223372036854775807
 it:s.it.length<=9223372036854775807
 L:∀t∈s.st,t.L.length<=9223372036854775807/\t.H0.length<=9223372036854775807
theorem uL {t:ST}{u:Option ST}(h:ki t u=0):mM t=0:=by
 unfold ki at h;split at h
 .assumption
 .assumption
theorem su {st:List ST}{j:Nat}{u:ST}(h:st[j]?=some u):Cw st (j+1)=some u:=by rw[Cw,if_neg J,iC,h]
def Mx (st:List ST)(i:Nat):PV:=match Cw st i with
 |none => .raw (.pointer none)
 |some u => .dref (eT u) 0
theorem r_ {n:Nat}(h:aK (n:Int) 1 40=true):n<=40:=by
 simp[aK]at h;omega
theorem pA (s:SHP)(hs:s.Len):aU 11 [.agg (fx s)] (I (f7 s)):=by
 have n0:=pP s.nm;have n1:=cH s.len 1 1000000;have n2:=cH s.st.length 1 40;have hml:((s.st.map eT).length:Int)=s.st.length:=ap;have hld:=u_ s hs.it;have hL:=hs.L;generalize hf:f7 s=E;rw[f7]at hf;generalize pU s=le at *
 obtain⟨nm,len,st,light,it⟩:=s;simp only at *
 refine aD Proofs.Tryz.func11 ?_;refine ax n0 ?_;cases hn:dT nm with
 |false =>
  rw[hn,if_neg Y]at hf;subst hf;exact cB
 |true =>
  rw[hn,if_pos O]at hf;refine ax n1 ?_;cases h1:aK len 1 1000000 with
  |false =>
   rw[h1,if_neg ap]at hf;subst hf;exact cB
  |true =>
   refine H ?_;rw[hml];refine Q6 O O O n2 O O O ?_;cases h2:aK st.length 1 40 with
   |false =>
    rw[h2,if_neg ap]at hf;subst hf;exact cB
   |true =>
    have h40:=r_ h2;rw[h1,h2,if_pos ⟨O,O⟩]at hf;refine H ?_;rw[hml];refine ai (ClearE st (Dx st)) (fun k=>[(1,.ptr 1 1 0 0),(3,Mx st k),(23,.sl (st.map eT)),(24,I st.length),(25,I (k:Nat))]) (fun _=>[(1,1,⟨27,9,[fx ⟨nm,len,st,light,it⟩],2⟩)]) (fun k=>st.length-k) 0 .zero' ah ?_;intro k s1 hk;have hkl:=hk.1;refine D ?_ ?_<;>intro h
    .have hlt:k<st.length:=cw h;clear h;obtain⟨t,hx⟩:=ay hlt;obtain⟨l1,l2⟩:=hL t (bC hx);have hw:=dN k;have hnb:PV.dref (eT t) 0=Mx st (k+1):=by rw[Mx,su hx]
     have hc:aU 47 [.agg (eT t),Mx st k] (I (Dx st k t)):=by
      cases k with
      |zero=>exact rH t l1 l2
      |succ j =>
       obtain⟨u,hu⟩:=ay (show j<st.length by omega);rw[Dx,Mx,su hu];exact AX t u (uL (hk.2 j u J hu)) l1 l2
     have hfb:(Mx st k=.raw (.pointer none))\/∃u,Mx st k=.dref (eT u) 0:=by
      rw[Mx];cases Cw st k with
      |none=>exact .inl rfl
      |some u=>exact .inr ⟨u,rfl⟩
     have hfl:=fun e (h:Dx st k t=e) (he:e≠0)=>hk.found hx h he;have hsu:=fun(h:Dx st k t=0)=>hk.succ hx h;generalize Dx st k t=e,Mx st k=bp at *
     rcases hfb with rfl|⟨u,rfl⟩
     .refine aN hx ?_;refine ax hc ?_;refine D ?_ ?_<;>intro h
      .have he:e≠0:=by simpa using h
       clear h;rw[hfl e O he,if_neg he]at hf;subst hf;exact cB
      .have he:e=0:=by simpa using h
       clear h;refine aN hx ?_;refine H ?_;exact⟨k+1,hsu he,J,O,hnb,O,O,congrArg I hw,O,bh⟩
     .refine aN hx ?_;refine ax hc ?_;refine D ?_ ?_<;>intro h
      .have he:e≠0:=by simpa using h
       clear h;rw[hfl e O he,if_neg he]at hf;subst hf;exact cB
      .have he:e=0:=by simpa using h
       clear h;refine aN hx ?_;refine H ?_;exact⟨k+1,hsu he,J,O,hnb,O,O,congrArg I hw,O,bh⟩
    .have hge:¬k<st.length:=co h;clear h;rw[hk.none hge,if_pos O]at hf;subst hf;refine ax hld ?_;exact cB
theorem Bx (d:Int):aU 174 [I d] (I (if aK d 900 1100=true then 0 else 2)):=by
 have h1:=cH d 900 1100;generalize aK d 900 1100=p at *
 cases p;all_goals
  refine aD Proofs.Tryz.func174 ?_;refine ax h1 ?_;exact cB
theorem AJ (d:Int):aU 82 [I d] (I (if aK d 900 1100=true then 0 else 2)):=by
 have h1:=dW d 900 1100;generalize aK d 900 1100=p at *
 cases p;all_goals
  refine aD Proofs.Tryz.func82 ?_;refine ax h1 ?_;exact cB
def ng (s:SHP)(d:Int):Int:=if f7 s=0 then(if aK d 900 1100=true then 0 else 2) else f7 s
theorem te (s:SHP)(hs:s.Len)(d:Int):aU 100 [.agg (fx s),I d] (I (ng s d)):=by
 have h1:=pA s hs;have h2:=Bx d;rw[ng];generalize (if aK d 900 1100=true then(0:Int) else 2)=e2,f7 s=e at *
 by_cases he:e=0
 .subst he;rw[if_pos O];refine aD Proofs.Tryz.func100 ?_;refine ax h1 ?_;refine ax h2 ?_;exact cB
 .rw[if_neg he];refine aD Proofs.Tryz.func100 ?_;refine ax h1 ?_;refine D ?_ ?_<;>intro h
  .clear h;exact cB
  .simp at h;exact absurd h he
theorem CL (s:SHP)(hs:s.Len):aU 37 [.agg (fx s)] (I (f7 s)):=by
 have n0:=pO s.nm;have n1:=dW s.len 1 1000000;have n2:=dW s.st.length 1 40;have hml:((s.st.map eT).length:Int)=s.st.length:=ap;have hmi:((s.it.map eLd).length:Int)=s.it.length:=ap;have hL:=hs.L;have hld0:=yH s.light [] Y 1;have hld0:aU 99 [.agg (eLd s.light),.nil,I 1] (I (jg s.light [] 1)):=hld0.weak (.cons (.rfl _) (.cons .nil (.cons (.rfl _) .nil))) (.rfl _);generalize hf:f7 s=E;rw[f7]at hf;have hle:pU s=if jg s.light [] 1=0 then(if 60<s.it.length then 8 else jM s.it (P8 s.light s.it)) else jg s.light [] 1:=O
 obtain⟨nm,len,st,light,it⟩:=s;simp only at *
 refine aD Proofs.Tryz.func37 ?_;refine ax n0 ?_;cases hn:dT nm with
 |false =>
  rw[hn,if_neg Y]at hf;subst hf;exact cB
 |true =>
  rw[hn,if_pos O]at hf;refine ax n1 ?_;cases h1:aK len 1 1000000 with
  |false =>
   rw[h1,if_neg ap]at hf;subst hf;exact cB
  |true =>
   refine H ?_;rw[hml];refine Q6 O O O n2 O O O ?_;cases h2:aK st.length 1 40 with
   |false =>
    rw[h2,if_neg ap]at hf;subst hf;exact cB
   |true =>
    have h40:=r_ h2;rw[h1,h2,if_pos ⟨O,O⟩]at hf;refine H ?_;refine ai (ClearE st (Dx st)) (fun k=>[(1,.ptr 1 1 0 0),(3,I (k:Nat))]) (fun _=>[(1,1,⟨27,9,[fx ⟨nm,len,st,light,it⟩],2⟩)]) (fun k=>st.length-k) 0 .zero' ah ?_;intro k s1 hk;have hkl:=hk.1;refine H ?_;rw[hml];refine aV O ?_ ?_<;>intro h
    .have hlt:k<st.length:=cw h;clear h;obtain⟨t,hx⟩:=ay hlt;obtain⟨l1,l2⟩:=hL t (bC hx);have hw:=dN k;have c1:=La t;have c2:=Ie t l1 l2;refine aN hx ?_;refine ax c1 ?_;refine D ?_ ?_<;>intro h
     .have he:mM t≠0:=by simpa using h
      clear h;have hfl:=hk.found hx (show Dx st k t=mM t by rw[Dx,ki.eq_def,if_neg he]) he;rw[hfl,if_neg he]at hf;subst hf;exact cB
     have hpt:mM t=0:=by simpa using h
     clear h c1;refine cX 14 [43,44,45,46,47,48,49,50,51,52,53,54,55,56] ?_;refine H ?_;cases k with
     |zero =>
      have hst:Dx st 0 t=gP t:=by rw[Dx,ki.eq_def,if_pos hpt];rfl
      refine cX 26 [57,58,59,60,61,62,63,64,65,66,67,68,69,70,71,72,73,74,75,76,77,78,79,80,81,82] ?_;refine ax c2 ?_;refine D ?_ ?_<;>intro h
      .have he:gP t≠0:=by simpa using h
       clear h;rw[hk.found hx hst he,if_neg he]at hf;subst hf;exact cB
      .have he:gP t=0:=by simpa using h
       clear h;rw[he]at hst;refine H ?_;exact⟨0+1,hk.succ hx hst,J,O,congrArg I hw,O,bh⟩
     |succ j =>
      obtain⟨u,hu⟩:=ay (show j<st.length by omega);have hpu:=uL (hk.2 j u J hu);obtain⟨⟨a1,a2⟩,a3,a4⟩:=wu hpt;obtain⟨⟨b1,b2⟩,b3,b4⟩:=wu hpu;have k1:=gp (t.x-u.x);have k2:=gp (2*(t.x-u.x));have k3:=gp (t.w+u.w);have hwj:IntKind.i64.wrap (((j+1:Nat):Int)-1)=(j:Nat):=by rw[wrap_i64 J J];omega
      have hse:Dx st (j+1) t=if oT t u=0 then gP t else oT t u:=by rw[Dx,ki.eq_def,if_pos hpt,su hu]
      refine LF O O O ?_ ?_<;>intro h
      rotate_left
      .exfalso;have:=bS h;omega
      clear h;refine H ?_;rw[hwj];refine tp O O O O O O O hu O ?_;refine D ?_ ?_<;>intro h
      .have d1:t.x<=u.x:=bk h;clear h;have hb:oT t u=10:=by rw[oT,if_pos J]
       rw[hb,if_neg Y]at hse;rw[hk.found hx hse Y,if_neg Y]at hf;subst hf;exact cB
      have d1:¬t.x<=u.x:=bS h;clear h;refine cX 26 [57,58,59,60,61,62,63,64,65,66,67,68,69,70,71,72,73,74,75,76,77,78,79,80,81,82] ?_;refine fi ?_ ?_<;>intro h
      rotate_left
      .exfalso;have:=bS h;omega
      clear h;refine H ?_;rw[hwj];refine tp O O O O O O O hu O ?_;refine H ?_;rw[k1];refine H ?_;rw[k2];refine H ?_;rw[hwj];refine tp O O O O O O O hu O ?_;refine H ?_;rw[k3];refine D ?_ ?_<;>intro h
      .have d2:2*(t.x-u.x)<t.w+u.w:=bk h;clear h;have hb:oT t u=17:=by rw[oT,if_neg J,if_pos d2]
       rw[hb,if_neg Y]at hse;rw[hk.found hx hse Y,if_neg Y]at hf;subst hf;exact cB
      have d2:¬2*(t.x-u.x)<t.w+u.w:=bS h;clear h;have hb:oT t u=0:=by rw[oT,if_neg J,if_neg d2]
      rw[if_pos hb]at hse;have hst:=hse;refine ax c2 ?_;refine D ?_ ?_<;>intro h
      .have he:gP t≠0:=by simpa using h
       clear h;rw[hk.found hx hst he,if_neg he]at hf;subst hf;exact cB
      .have he:gP t=0:=by simpa using h
       clear h;rw[he]at hst;refine H ?_;exact⟨j+1+1,hk.succ hx hst,J,O,congrArg I hw,O,bh⟩
    .have hge:¬k<st.length:=co h;clear h;rw[hk.none hge,if_pos O,hle]at hf;refine ax hld0 ?_;refine H ?_;by_cases hz:jg light [] 1=0
     rotate_left
     .rw[if_neg hz]at hf;generalize jg light [] 1=e at *
      subst hf;refine aV O ?_ ?_<;>intro h
      .clear h;exact cB
      .simp at h;exact absurd h hz
     rw[if_pos hz]at hf;rw[hz];refine H ?_;rw[hmi];refine aV O ?_ ?_<;>intro h
     .rw[if_pos (by have:=bk h;omega)]at hf;subst hf;exact cB
     have h60:¬60<it.length:=co h;clear h;rw[if_neg h60]at hf;refine H ?_;refine aC (bb 1 O O O O O O O O O O O ah O ?_);refine H ?_;refine aQ [(1,.ptr 1 1 0 0),(8,.als 100 ((s1.own 100).1+1) 0 ([eLd light]).length),(9,I ((0:Nat):Int))] [(1,1,⟨27,9,[fx ⟨nm,len,st,light,it⟩],2⟩),(100,(s1.own 100).1+1,⟨24,5,[eLd light],1⟩)] ah ?_;generalize (s1.own 100).1+1=g;intro s2;refine ai (fun q:Nat × Nat=>ClearE it (P8 light it) q.1) (fun q=>[(1,.ptr 1 1 0 0),(8,.als 100 q.2 0 ((light::it.take q.1).map eLd).length),(9,I (q.1:Nat))]) (fun q=>[(1,1,⟨27,9,[fx ⟨nm,len,st,light,it⟩],2⟩),(100,q.2,⟨24,5,(light::it.take q.1).map eLd,1⟩)]) (fun q=>it.length-q.1) (0,g) .zero' ah ?_;rintro⟨k,g⟩ s3 hk2;dsimp only at hk2 ⊢;have hkl:=hk2.1;refine H ?_;rw[hmi];refine aV O ?_ ?_<;>intro h
     .have hlt:k<it.length:=cw h;clear h;obtain⟨w,hx⟩:=ay hlt;have hw:=dN k;have hBl:(light::it.take k).length<=61:=by rw[dl,bc];omega
      have c1:=yH w (light::it.take k) J 0;have hfl:=hk2.found hx (show P8 light it k w=jg w (light::it.take k) 0 from O);have hsu:=fun h=>hk2.succ hx (show P8 light it k w=0 from h);have hsn:(light::it.take (k+1)).map eLd=(light::it.take k).map eLd++[eLd w]:=by rw[bR hx];simp
      have hsu:=fun(h:jg w (light::it.take k) 0=0)=>hsu h;generalize jg w (light::it.take k) 0=e at *
      generalize light::it.take k=D0 at *
      refine aN hx ?_;refine ax c1 ?_;refine D ?_ ?_<;>intro h
      .have he:e≠0:=by simpa using h
       clear h;rw[hfl he]at hf;subst hf;exact cB
      .have he:e=0:=by simpa using h
       clear h;refine aN hx ?_;refine H ?_;refine aC (bb 1 O O O O O O O O O O O ah O ?_);refine H ?_;refine aC (bO 1 O O O O O O O O O O O ah fW O O aS aS ?_);refine H ?_;refine⟨(k+1,g+1),hsu he,by simp only;omega,O,?_,congrArg I hw,O,?_,bh⟩
       .dsimp only;rw[hsn];rfl
       .dsimp only;rw[hsn];rfl
     .have hge:¬k<it.length:=co h;clear h;rw[hk2.none hge]at hf;subst hf;exact cB
end Go.Pv
namespace Go.Proofs
open Go.Shelf
def Tryz.growL_ren:Go.Shelf.Ren:=⟨fun|4=>241|n=>n,fun|22=>25|25=>24|3=>3|4=>4|9=>9|20=>20|0=>0|n=>n,fun|n=>n⟩
theorem Tryz.growL:Go.Proofs.Lays8.n4 Tryz.prog Tryz.growL_ren:={
 mixed:=by kernel_rfl
 f4:=⟨Tryz.f241.name,by decide,Tryz.func241.trans (congrArg some (by kernel_rfl))⟩
 t0:=Tryz.underlying0
 a0:=Tryz.isAgg0
 z0:=Tryz.sizeOf0
 v0:=Tryz.zeroValue0
 t3:=Tryz.underlying3
 a3:=Tryz.isAgg3
 z3:=Tryz.sizeOf3
 v3:=Tryz.zeroValue3
 t4:=Tryz.underlying4
 a4:=Tryz.isAgg4
 z4:=Tryz.sizeOf4
 v4:=Tryz.zeroValue4
 t9:=Tryz.underlying9
 a9:=Tryz.isAgg9
 z9:=Tryz.sizeOf9
 v9:=Tryz.zeroValue9
 t20:=Tryz.underlying20
 a20:=Tryz.isAgg20
 z20:=Tryz.sizeOf20
 v20:=Tryz.zeroValue20
 t22:=Tryz.underlying25
 a22:=Tryz.isAgg25
 z22:=Tryz.sizeOf25
 v22:=Tryz.zeroValue25 }
end Go.Proofs
set_option maxHeartbeats 2000000
namespace Go.Pv
attribute [local irreducible] PWP POps PQuiet PSem aE aw aj ak
open Go.Proofs Go.RowKit
theorem JK (n:Nat)(h0:1<=n)(hn:n<=1000000):RetO Tryz.prog 241 [.nil,I (n:Nat)] 24 5 []:=by
 refine⟨⟨_,Go.Proofs.Tryz.func241,Y,O⟩,fun w X args hg hX hl hargs=>?_⟩
 match args,hl with
 |[v0,v1],_ =>
  have e0:v0=.slice none 0 0:=by
   have:=hargs 0 .nil v0 O O;cases this;rfl
  have e1:v1=.int .i64 n:=by
   have:=hargs 1 (I (n:Nat)) v1 O O;cases this;rfl
  subst e0 e1;obtain⟨i0,d,hi,_,hs,hby,_,hz⟩:=LRow.spec (layOk 24 _ O);obtain⟨z,hz0,hzs,_,_⟩:=hz _ O;have hs:i0.size=5:=hs;have hby:i0.bytes=48:=hby;have hzs:z.cells.size=5:=hzs;refine(Any8.slices_Grow_grow Tryz.growL i0 z hi hz0 J none 0 0 n [] w (aY) J (by rw[hby];omega) J ap (fun _=>rfl) (fun a h=>by cases h)).mono ?_;rintro e w' ⟨rfl,rfl⟩;have hge:=grownCap_ge w (0+n) 0 24;have hle:=grownCap_le_maxLen w (0+n) 0 24 (by unfold maxLen;omega);refine⟨_,O,?_,.inr ⟨w.heap.size,grownCap w (0+n) 0 24,_,aY,O,cC _ _,aP _,hle,?_,Y,aP _,fun row hr=>(by cases hr),fun i j row c hr=>(by simp at hr)⟩⟩
  .have hb:Below w.heap.size w w.drew:=Below.drew (Below.refl _ _);exact hb.alloc (aY) _
  .rw[z7,z7,size_zeroCells,size_zeroCells,hzs];show 0+(0+n-0)*5+(grownCap w (0+n) 0 24-(0+n))*5=grownCap w (0+n) 0 24*5;omega
def RC:Nat->Nat
 |0=>0
 |_+1=>1
theorem DL (A B:List LR)(hA:1<=A.length)(hl:A.length+B.length<=1000000):aU 179 [.sl ([A,B].map fun l=>[.sl (l.map eLd)])] (.sl ((A++B).map eLd)):=by
 have hg:=JK (A.length+B.length) J hl;generalize hL:[A,B]=LL;have hLl:LL.length=2:=by rw[<-hL];rfl
 have hml:((LL.map fun l=>[PV.sl (l.map eLd)]).length:Int)=LL.length:=ap;let sm (k:Nat):Nat:=((LL.take k).map List.length).sum;have s0:sm 0=0:=by simp[sm]
 have s2:sm LL.length=A.length+B.length:=by simp only[sm];rw[<-hL];simp
 have hsm:∀k,sm k<=1000000:=fun k=>by
  simp only[sm];rw[<-hL]
  match k with
  |0=>simp
  |1=>simp;omega
  |k+2=>simp;omega
 have hsn:∀k x,LL[k]?=some x->sm (k+1)=sm k+x.length:=fun k x hx=>by
  simp only[sm];rw[bR hx,bj,List.sum_append];simp
 have hrn:∀k x,LL[k]?=some x->((LL.take (k+1)).flatten).map eLd=((LL.take k).flatten).map eLd++x.map eLd:=fun k x hx=>by
  rw[bR hx,List.flatten_append,bj];simp
 have hrl:∀k,(((LL.take k).flatten).map eLd).length=sm k:=fun k=>by simp only[sm];rw[aF,List.length_flatten]
 have hend:LL.flatten=A++B:=by rw[<-hL];simp
 clear_value sm
 refine aD Proofs.Tryz.func179 ?_;refine H ?_;rw[hml];refine ai (fun k:Nat=>k<=LL.length) (fun k=>[(0,.sl (LL.map fun l=>[.sl (l.map eLd)])),(3,I (sm k:Nat)),(9,.sl (LL.map fun l=>[.sl (l.map eLd)])),(10,I LL.length),(11,I (k:Nat))]) (fun _=>[]) (fun k=>LL.length-k) 0 (aP _) ⟨O,by rw[s0];rfl,ah⟩ ?_;intro k s hk;refine D ?_ ?_<;>intro h
 .have hlt:k<LL.length:=cw h;clear h;obtain⟨x,hx⟩:=ay hlt;have hmx:((x.map eLd).length:Int)=x.length:=ap;have hs1:=hsn k x hx;have hs2:=hsm (k+1);have hw:=dN k;have hws:IntKind.i64.wrap (((sm k:Nat):Int)+(x.length:Int))=((sm (k+1):Nat):Int):=by rw[wrap_i64 J J];omega
  refine aN hx ?_;refine H ?_;rw[hmx,hws];refine H ?_;exact⟨k+1,hlt,J,O,O,O,O,congrArg I hw,bh⟩
 .have hge:k=LL.length:=co h;clear h;subst hge;rw[s2]
  (refine cV 9 ?_;refine aR 1 ?_)
  refine iQ O ?_;refine bJ ?_;refine br O (Lv O hg O ah O ?_);refine aT ?_;refine H ?_;rw[hml];refine aQ [(6,.als 24 ((s.own 24).1+1) 0 0),(25,.sl (LL.map fun l=>[.sl (l.map eLd)])),(26,I LL.length),(27,I ((0:Nat):Int))] [(24,(s.own 24).1+1,⟨24,5,[],0⟩)] ah ?_;generalize (s.own 24).1+1=g;intro s0;refine ai (fun k:Nat=>k<=LL.length) (fun k=>[(6,.als 24 (g+k) 0 (((LL.take k).flatten).map eLd).length),(25,.sl (LL.map fun l=>[.sl (l.map eLd)])),(26,I LL.length),(27,I (k:Nat))]) (fun k=>[(24,g+k,⟨24,5,((LL.take k).flatten).map eLd,RC k⟩)]) (fun k=>LL.length-k) 0 (aP _) ah ?_;intro k s1 hk;refine D ?_ ?_<;>intro h
  .have hlt:k<LL.length:=cw h;clear h;obtain⟨x,hx⟩:=ay hlt;have hs1:=hsn k x hx;have hs2:=hsm (k+1);have hr1:=hrn k x hx;have hr2:=hrl k;have hmx:(x.map eLd).length=x.length:=ap;have hw:=dN k;generalize ((LL.take k).flatten).map eLd=R at *
   refine aN hx ?_;refine H ?_;refine aC (bO 1 O O O O O O O O O O O ah (by intro row hr;obtain⟨_,_,rfl⟩:=aW.1 hr;rfl) (by cases k<;>rfl) O (by rw[hr2,hmx];show _*48<=_;omega) (by rw[hr2,hmx];omega) ?_);refine H ?_;refine⟨k+1,hlt,J,?_,O,O,congrArg I hw,?_,bh⟩
   .rw[hr1];rfl
   .rw[hr1];rfl
  .have hge:k=LL.length:=co h;clear h;subst hge;rw[bI,hend,show RC LL.length=1 by rw[hLl];rfl]
   (repeat ((fail_if_success (with_reducible refine fh ?_));refine wV O ?_))
   refine ao (Ghost.takeD (k:=24) (t:=2) O O O) ?_;exact cA
theorem HI (s:SHP)(hl:s.it.length<=100000):aU 108 [.agg (fx s)] (.sl ((s.light::s.it).map eLd)):=by
 have hc:=DL [s.light] s.it ap aS;rw[show [s.light]++s.it=s.light::s.it from O]at hc;obtain⟨nm,len,st,light,it⟩:=s;simp only at *
 refine aD Proofs.Tryz.func108 ?_
 (refine cV 1 ?_;refine aR 5 ?_)
 iterate 2 refine iQ O ?_
 refine aC (bb 1 O O O O O O O O O O O ah O ?_);iterate 2 refine iQ O ?_
 refine bJ ?_;refine br O (gF (Ghost.takeD (k:=5) (t:=5) O O O) (bb 1 O O O O O O O O O O O ah O ?_));refine br O (gF (Ghost.takeD (k:=8) (t:=8) O O O) ?_)
 (refine oX (gC O (hc) O ?_ O) ?_;.repeat' constructor)
 refine aT ?_;exact cA
open Go.Proofs
theorem dh (z:Int)(h:i64 z):aU 106 [I z] (.agg (eR (ofQ (z:Rat)))):=by
 have ho:=sj z h.1 h.2;have hw:=oS (di z) (by have:=kG (z:=z) (by obtain⟨h1,h2⟩:=h;omega);omega);rw[c_]at hw;generalize ofQ (z:Rat)=X,di z=Z at *
 refine aD Proofs.Tryz.func106 ?_;refine G ho ?_;refine G hw ?_;exact cA
theorem nc (x y:RR){p q:Rat}{n m:Nat}[hx:Vq x p n][hy:Vq y q m](hn:n<=20000000)(hm:m<=20000000)(h0:q≠0):aU 176 [.agg (eR x),.agg (eR y)] (.agg (eR (ofQ (p/q)))):=by
 have hq:=CC x y hn hm;rw[if_neg h0]at hq;generalize ofQ (p/q)=X at *
 refine aD Proofs.Tryz.func176 ?_;refine G hq ?_;exact cA
structure OkW (w:LR):Prop where
 m:0<=w.m/\w.m<=1000000000
 x : -1000000<=w.x/\w.x<=1000000
 z : -100000<=w.z/\w.z<=100000
 f:0<=w.f/\w.f<=1000000000
theorem Ks {w:LR}{l:Int}(hl:0<=l)(h:si w l=0):OkW w/\l<=w.m:=by
 rw[si]at h;split at h
 .rename_i h2;simp[Nh,aK]at h2;exact⟨⟨J,J,J,J⟩,J⟩
 .omega
def sM (l:List LR):Int:=(l.map (·.m)).sum
def sF (l:List LR):Int:=(l.map (·.f)).sum
def sX (l:List LR):Int:=(l.map fun w=>w.m*w.x).sum
def sZ (l:List LR):Int:=(l.map fun w=>w.m*w.z).sum
theorem Kn {m x M X:Int}(hm:0<=m/\m<=M)(hx : -X<=x/\x<=X)(h0:0<=X) : -(M*X)<=m*x/\m*x<=M*X:=by
 have h1:m*x<=m*X:=zC hx.2 hm.1;have h2:m*X<=M*X:=FR hm.2 h0;have h3:m*(-X)<=m*x:=zC hx.1 hm.1;rw[Int.mul_neg]at h3;omega
theorem OkW.mx {w:LR}(h:OkW w):(-1000000000000000<=w.m*w.x/\w.m*w.x<=1000000000000000) /\ -100000000000000<=w.m*w.z/\w.m*w.z<=100000000000000 :=
 ⟨Kn h.m h.x Y,Kn h.m h.z Y⟩
structure SumOk (l:List LR):Prop where
 m:0<=sM l/\sM l<=l.length*1000000000
 f:0<=sF l/\sF l<=l.length*1000000000
 x : -(l.length*1000000000000000:Int)<=sX l/\sX l<=l.length*1000000000000000
 z : -(l.length*100000000000000:Int)<=sZ l/\sZ l<=l.length*100000000000000
theorem kj:∀ {l:List LR},(∀w∈l,OkW w)->SumOk l
 |[],_=>⟨by simp[sM],by simp[sF],by simp[sX],by simp[sZ]⟩
 |w::l,h=>by
  have ih:=kj fun u hu=>h u (ff _ hu);have hw:=h w ez;obtain⟨⟨a1,a2⟩,a3,a4⟩:=hw.mx;obtain⟨⟨b1,b2⟩,_,_,b3,b4⟩:=hw;obtain⟨⟨c1,c2⟩,⟨c3,c4⟩,⟨c5,c6⟩,c7,c8⟩:=ih;have e1:sM (w::l)=w.m+sM l:=O;have e2:sF (w::l)=w.f+sF l:=O;have e3:sX (w::l)=w.m*w.x+sX l:=O;have e4:sZ (w::l)=w.m*w.z+sZ l:=O;have e5:((w::l).length:Int)=l.length+1:=ap;refine⟨?_,?_,?_,?_⟩
  .rw[e1,e5];omega
  .rw[e2,e5];omega
  .rw[e3,e5];omega
  .rw[e4,e5];omega
theorem Dd {l:List LR}{k:Nat}{w:LR}(h:l[k]?=some w):sM (l.take (k+1))=sM (l.take k)+w.m/\sF (l.take (k+1))=sF (l.take k)+w.f/\sX (l.take (k+1))=sX (l.take k)+w.m*w.x/\sZ (l.take (k+1))=sZ (l.take k)+w.m*w.z:=by
 rw[bR h];simp[sM,sF,sX,sZ]
def Te (m:Int)(x z:RR)(f:Int):List PV:=[I m]++eR x++eR z++[I f]
def xL (l:List LR):List PV:=Te (sM l) (ofQ ((sX l:Rat)/(sM l:Rat))) (ofQ ((sZ l:Rat)/(sM l:Rat))) (sF l)
theorem wY (s:SHP)(L:List LR)(hLe:L=s.light::s.it)(hL:∀w∈L,OkW w)(h1:1<=sM L)(hl:L.length<=61):aU 102 [.agg (fx s)] (.agg (xL L)):=by
 have hlo:=HI s (by
  have:L.length=s.it.length+1:=by rw[hLe];rfl
  omega)
 rw[<-hLe]at hlo;have w0:=dh 0 ⟨Y,Y⟩;have hml:((L.map eLd).length:Int)=L.length:=ap;have hto:=kj hL;have hne:(sM L:Rat)≠0:=by
  have:sM L≠0:=J
  exact_mod_cast this
 obtain⟨⟨t1,t2⟩,⟨t3,t4⟩,⟨t5,t6⟩,t7,t8⟩:=hto;have zM:Zb (sM L):=aI J J;have zX:Zb (sX L):=aI J J;have zZ:Zb (sZ L):=aI J J;have wM:=dh (sM L) ⟨J,J⟩;have dX:=nc (ofQ (sX L:Rat)) (ofQ (sM L:Rat)) (hx:=Vq.ofQ (h:=HQ.int)) (hy:=Vq.ofQ (h:=HQ.int)) Y Y hne;have dZ:=nc (ofQ (sZ L:Rat)) (ofQ (sM L:Rat)) (hx:=Vq.ofQ (h:=HQ.int)) (hy:=Vq.ofQ (h:=HQ.int)) Y Y hne;have sk:=fun k=>kj (l:=L.take k) fun w hw=>hL w (dD hw);refine aD Proofs.Tryz.func102 ?_;refine G w0 ?_;refine G w0 ?_;refine G hlo ?_;refine H ?_;rw[hml];refine ai (fun k:Nat=>k<=L.length) (fun k=>[(2,.ptr 2 1 0 0),(3,.ptr 3 1 0 0),(4,.ptr 4 1 0 0),(5,.ptr 5 1 0 0),(11,.sl (L.map eLd)),(12,I L.length),(13,I (k:Nat))]) (fun k=>[(2,1,⟨69,10,[[I 0]++zN++zN++[I 0]],2⟩),(3,1,⟨69,10,[[I (sM (L.take k))]++zN++zN++[I (sF (L.take k))]],2⟩),(4,1,⟨41,4,[eR (ofQ (sX (L.take k):Rat))],2⟩),(5,1,⟨41,4,[eR (ofQ (sZ (L.take k):Rat))],2⟩)]) (fun k=>L.length-k) 0 (aP _) ah ?_;intro k s1 hk;refine D ?_ ?_<;>intro h
 .have hlt:k<L.length:=cw h;clear h;obtain⟨w,hx⟩:=ay hlt;have ow:=hL w (bC hx);obtain⟨⟨a1,a2⟩,a3,a4⟩:=ow.mx;have hsk:=sk k;have hsk2:=sk (k+1);have hl1:(L.take k).length<=100:=by rw[bc];omega
  have hl2:(L.take (k+1)).length<=100:=by rw[bc];omega
  obtain⟨⟨c1,c2⟩,⟨c3,c4⟩,⟨c5,c6⟩,c7,c8⟩:=hsk;obtain⟨⟨d1,d2⟩,⟨d3,d4⟩,⟨d5,d6⟩,d7,d8⟩:=hsk2;obtain⟨e1,e2,e3,e4⟩:=Dd hx;have hw:=dN k;have v1:IntKind.i64.wrap (sM (L.take k)+w.m)=sM (L.take (k+1)):=by rw[wrap_i64 J J];omega
  have v2:IntKind.i64.wrap (sF (L.take k)+w.f)=sF (L.take (k+1)):=by rw[wrap_i64 J J];omega
  have v3:=gp (w.m*w.x);have v4:=gp (w.m*w.z);have z1:Zb (sX (L.take k)):=aI J J;have z2:Zb (sZ (L.take k)):=aI J J;have z3:Zb (w.m*w.x):=aI J J;have z4:Zb (w.m*w.z):=aI J J;have u1:=dh (w.m*w.x) ⟨J,J⟩;have u2:=dh (w.m*w.z) ⟨J,J⟩;have g1:=eJ (ofQ (sX (L.take k):Rat)) (ofQ ((w.m*w.x:Int):Rat)) (hx:=Vq.ofQ (h:=HQ.int)) (hy:=Vq.ofQ (h:=HQ.int)) Y Y;have g2:=eJ (ofQ (sZ (L.take k):Rat)) (ofQ ((w.m*w.z:Int):Rat)) (hx:=Vq.ofQ (h:=HQ.int)) (hy:=Vq.ofQ (h:=HQ.int)) Y Y;rw[<-k8,<-e3]at g1;rw[<-k8,<-e4]at g2;clear c1 c2 c3 c4 c5 c6 c7 c8 d1 d2 d3 d4 d5 d6 d7 d8 e1 e2 e3 e4 z1 z2 z3 z4 a1 a2 a3 a4 hl1 hl2;refine aN hx ?_;refine H ?_;rw[v1];refine H ?_;rw[v2];refine cX 8 [29,30,31,32,33,34,35,36] ?_;refine H ?_;rw[v3];refine oJ O O O u1 O O ?_;refine G g1 ?_;refine cX 8 [37,38,39,40,41,42,43,44] ?_;refine H ?_;rw[v4];refine oJ O O O u2 O O ?_;refine G g2 ?_;refine H ?_;exact⟨k+1,hlt,J,O,O,O,O,O,O,congrArg I hw,ah⟩
 .have hge:k=L.length:=co h;clear h;subst hge;rw[bI];clear sk hne zM zX zZ;rw[xL];generalize ofQ ((sX L:Rat)/(sM L:Rat))=QX,ofQ ((sZ L:Rat)/(sM L:Rat))=QZ at *
  refine H ?_;refine bM [] [3] 11 [11,12,13] aH aH ?_;refine G wM ?_;refine G dX ?_;refine G wM ?_;refine G dZ ?_;exact cA
theorem qK {α:Type}{l:List α}{f:Nat->α->Int}(h:jM l f=0){i:Nat}{x:α}(hx:l[i]?=some x):f i x=0:=lU h i x hx
structure ShipOk (s:SHP):Prop where
 len:s.st.length<=40
 st:∀i t,s.st[i]?=some t->Dx s.st i t=0
 ld:∀w∈s.light::s.it,OkW w
 m:1<=sM (s.light::s.it)
 n:s.it.length<=60
theorem B4 {w:LR}{B:List LR}{l:Int}(h:jg w B l=0):si w l=0:=by
 rw[jg]at h;split at h
 .split at h
  .omega
  .exact h
 .omega
theorem lk {s:SHP}(h:f7 s=0):ShipOk s:=by
 rw[f7]at h;split at h
 rotate_left
 .omega
 split at h
 rotate_left
 .omega
 rename_i hin;split at h
 rotate_left
 .contradiction
 rename_i hst;rw[pU]at h;split at h
 rotate_left
 .contradiction
 rename_i hl;split at h
 .omega
 rename_i h60;obtain⟨o1,m1⟩:=Ks Y (B4 hl);have o2:∀w∈s.it,OkW w:=fun w hw=>by
  obtain⟨i,hi⟩:=i5.1 hw;exact(Ks (oE 0) (B4 (qK h hi))).1
 have hall:∀w∈s.light::s.it,OkW w:=fun w hw=>by
  rcases bV.1 hw with rfl|hw
  .exact o1
  .exact o2 w hw
 refine⟨r_ hin.2,fun i t ht=>qK hst ht,hall,?_,J⟩;have:=(kj o2).m;have e:sM (s.light::s.it)=s.light.m+sM s.it:=O;omega
theorem HG (s:SHP)(hs:s.Len)(h:f7 s=0):aU 43 [.agg (fx s)] (.tup [.agg (xL (s.light::s.it)),I 0]):=by
 have h1:=pA s hs;have ok:=lk h;have h2:=wY s _ O ok.ld ok.m (by have:=ok.n;simp;omega);rw[h]at h1;rw[xL]at h2 ⊢;generalize ofQ ((sX (s.light::s.it):Rat)/(sM (s.light::s.it):Rat))=QX,ofQ ((sZ (s.light::s.it):Rat)/(sM (s.light::s.it):Rat))=QZ at *
 clear ok;refine aD Proofs.Tryz.func43 ?_;refine ax h1 ?_;refine G h2 ?_;exact cA
theorem CJ (s:SHP)(hl:s.it.length<=100000):aU 60 [.agg (fx s)] (.sl ((s.light::s.it).map eLd)):=by
 obtain⟨nm,len,st,light,it⟩:=s;simp only at *
 refine aD Proofs.Tryz.func60 ?_;refine H ?_;refine aC (bb 1 O O O O O O O O O O O ah O ?_);refine H ?_;refine aC (bO 1 O O O O O O O O O O O ah (by intro row hr;obtain⟨_,_,rfl⟩:=aW.1 hr;rfl) O O aS aS ?_)
 (repeat ((fail_if_success (with_reducible refine fh ?_));refine wV O ?_))
 refine ao (Ghost.takeD (k:=5) (t:=2) O O O) ?_;exact cA
theorem tz (s:SHP)(L:List LR)(hLe:L=s.light::s.it)(hL:∀w∈L,OkW w)(h1:1<=sM L)(hl:L.length<=61):aU 20 [.agg (fx s)] (.agg (xL L)):=by
 have hlo:=CJ s (by
  have:L.length=s.it.length+1:=by rw[hLe];rfl
  omega)
 rw[<-hLe]at hlo;have w0:=cf 0 ⟨Y,Y⟩;have hml:((L.map eLd).length:Int)=L.length:=ap;have hto:=kj hL;have hne:(sM L:Rat)≠0:=by
  have:sM L≠0:=J
  exact_mod_cast this
 obtain⟨⟨t1,t2⟩,⟨t3,t4⟩,⟨t5,t6⟩,t7,t8⟩:=hto;have zM:Zb (sM L):=aI J J;have zX:Zb (sX L):=aI J J;have zZ:Zb (sZ L):=aI J J;have wM:=cf (sM L) ⟨J,J⟩;have dX:=iN (ofQ (sX L:Rat)) (ofQ (sM L:Rat)) (hx:=Vq.ofQ (h:=HQ.int)) (hy:=Vq.ofQ (h:=HQ.int)) Y Y hne;have dZ:=iN (ofQ (sZ L:Rat)) (ofQ (sM L:Rat)) (hx:=Vq.ofQ (h:=HQ.int)) (hy:=Vq.ofQ (h:=HQ.int)) Y Y hne;have sk:=fun k=>kj (l:=L.take k) fun w hw=>hL w (dD hw);refine aD Proofs.Tryz.func20 ?_;refine G hlo ?_;refine G w0 ?_;refine G w0 ?_;refine H ?_;refine ai (fun k:Nat=>k<=L.length) (fun k=>[(2,.ptr 2 1 0 0),(3,.sl (L.map eLd)),(4,.ptr 4 1 0 0),(5,.ptr 5 1 0 0),(6,.ptr 6 1 0 0),(7,I (k:Nat))]) (fun k=>[(2,1,⟨69,10,[[I 0]++zN++zN++[I 0]],2⟩),(4,1,⟨69,10,[[I (sM (L.take k))]++zN++zN++[I (sF (L.take k))]],2⟩),(5,1,⟨41,4,[eR (ofQ (sX (L.take k):Rat))],2⟩),(6,1,⟨41,4,[eR (ofQ (sZ (L.take k):Rat))],2⟩)]) (fun k=>L.length-k) 0 (aP _) ah ?_;intro k s1 hk;refine H ?_;rw[hml];refine aV O ?_ ?_<;>intro h
 .have hlt:k<L.length:=cw h;clear h;obtain⟨w,hx⟩:=ay hlt;have ow:=hL w (bC hx);obtain⟨⟨a1,a2⟩,a3,a4⟩:=ow.mx;have hsk:=sk k;have hsk2:=sk (k+1);have hl1:(L.take k).length<=100:=by rw[bc];omega
  have hl2:(L.take (k+1)).length<=100:=by rw[bc];omega
  obtain⟨⟨c1,c2⟩,⟨c3,c4⟩,⟨c5,c6⟩,c7,c8⟩:=hsk;obtain⟨⟨d1,d2⟩,⟨d3,d4⟩,⟨d5,d6⟩,d7,d8⟩:=hsk2;obtain⟨e1,e2,e3,e4⟩:=Dd hx;have hw:=dN k;have v1:IntKind.i64.wrap (sM (L.take k)+w.m)=sM (L.take (k+1)):=by rw[wrap_i64 J J];omega
  have v2:IntKind.i64.wrap (sF (L.take k)+w.f)=sF (L.take (k+1)):=by rw[wrap_i64 J J];omega
  have v3:=gp (w.m*w.x);have v4:=gp (w.m*w.z);have z1:Zb (sX (L.take k)):=aI J J;have z2:Zb (sZ (L.take k)):=aI J J;have z3:Zb (w.m*w.x):=aI J J;have z4:Zb (w.m*w.z):=aI J J;have u1:=cf (w.m*w.x) ⟨J,J⟩;have u2:=cf (w.m*w.z) ⟨J,J⟩;have g1:=b8 (ofQ (sX (L.take k):Rat)) (ofQ ((w.m*w.x:Int):Rat)) (hx:=Vq.ofQ (h:=HQ.int)) (hy:=Vq.ofQ (h:=HQ.int)) Y Y;have g2:=b8 (ofQ (sZ (L.take k):Rat)) (ofQ ((w.m*w.z:Int):Rat)) (hx:=Vq.ofQ (h:=HQ.int)) (hy:=Vq.ofQ (h:=HQ.int)) Y Y;rw[<-k8,<-e3]at g1;rw[<-k8,<-e4]at g2;clear c1 c2 c3 c4 c5 c6 c7 c8 d1 d2 d3 d4 d5 d6 d7 d8 e1 e2 e3 e4 z1 z2 z3 z4 a1 a2 a3 a4 hl1 hl2;refine cX 9 [19,20,21,22,23,24,25,26,27] ?_;refine aN hx ?_;refine H ?_;rw[v1];refine cX 9 [28,29,30,31,32,33,34,35,36] ?_;refine aN hx ?_;refine H ?_;rw[v2];refine cX 14 [37,38,39,40,41,42,43,44,45,46,47,48,49,50] ?_;refine aN hx ?_;refine aN hx ?_;refine H ?_;rw[v3];refine oJ O O O u1 O O ?_;refine G g1 ?_;refine cX 14 [51,52,53,54,55,56,57,58,59,60,61,62,63,64] ?_;refine aN hx ?_;refine aN hx ?_;refine H ?_;rw[v4];refine oJ O O O u2 O O ?_;refine G g2 ?_;refine H ?_;exact⟨k+1,hlt,J,O,O,O,O,O,congrArg I hw,ah⟩
 .have hge:k=L.length:=co h;clear h;subst hge;rw[bI];clear sk hne zM zX zZ;rw[xL];generalize ofQ ((sX L:Rat)/(sM L:Rat))=QX,ofQ ((sZ L:Rat)/(sM L:Rat))=QZ at *
  refine H ?_;refine bM [] [4] 11 [11,12,13] aH aH ?_;refine G wM ?_;refine G dX ?_;refine G wM ?_;refine G dZ ?_;exact cA
theorem GL (a b:Nat):Int.tdiv (a:Int) (b:Int)=((a/b:Nat):Int):=by rw[Int.ofNat_tdiv]
theorem RT (a b:Nat)(hb:0<b):ofQ ((a:Rat)/(b:Rat))=⟨di ((a/Nat.gcd a b:Nat):Int),di ((b/Nat.gcd a b:Nat):Int)⟩:=by
 obtain⟨e1,e2,e3⟩:=uG (a:Int) (b:Int) J;have c1:((a:Int):Rat)=(a:Rat):=O;have c2:((b:Int):Rat)=(b:Rat):=O;rw[c1,c2]at e1 e2 e3;have hn:¬((a:Rat)/(b:Rat)).num<0:=fun h=>by
  rcases e3.1 h with h|h<;>omega
 have h1:((a:Rat)/(b:Rat)).num=((a/Nat.gcd a b:Nat):Int):=by
  have:((a:Rat)/(b:Rat)).num.natAbs=a/Nat.gcd a b:=e1;omega
 have h2:((a:Rat)/(b:Rat)).den=b/Nat.gcd a b:=e2;have h3:∀n:Nat,di (n:Int)=⟨false,aJ n⟩:=fun n=>by
  rw[di,decide_eq_false J];rfl
 rw[ofQ,h1,h2,h3 (b/_)]
theorem My (d:Nat)(h1:1<=d)(h2:d<=1000000000):aU 229 [I (d:Nat),I 1000000000] (.agg (eR (ofQ ((d:Rat)/1000000000)))):=by
 have hq:=RT d 1000000000 Y;have e0:((1000000000:Nat):Rat)=1000000000:=by rfl
 rw[e0]at hq;have hgp:0<Nat.gcd d 1000000000:=Nat.gcd_pos_of_pos_left _ J;have hb1:=jr d (Nat.gcd d 1000000000);have hb2:=jr 1000000000 (Nat.gcd d 1000000000);rw[hq];generalize hA:d/Nat.gcd d 1000000000=A at *
 generalize hB:1000000000/Nat.gcd d 1000000000=B at *
 have k1:=rU (A:Int) ⟨J,J⟩;have k2:=rU (B:Int) ⟨J,J⟩;generalize hX:di (A:Int)=X at *
 generalize hY:di (B:Int)=Y0 at *
 generalize hG:Nat.gcd d 1000000000=G0 at *
 refine aD Proofs.Tryz.func229 ?_;refine H ?_;refine ai (fun q:Nat × Nat=>q.1<=1000000000/\q.2<=1000000000/\Nat.gcd q.1 q.2=G0) (fun q=>[(0,I (d:Nat)),(1,I 1000000000),(4,.ptr 4 1 0 0),(5,I (q.1:Nat)),(6,I (q.2:Nat))]) (fun _=>[(4,1,⟨41,4,[zN],2⟩)]) (fun q=>q.2) (d,1000000000) ⟨h2,aY,hG⟩ ah ?_;rintro⟨x,y⟩ s ⟨hx,hy,hg⟩;simp only at hx hy hg;dsimp only;refine D ?_ ?_<;>intro h
 .have hy0:0<y:=cw h;clear h;have hm:=ep x hy0;refine H ?_;refine bL [] [] aH ?_;refine H ?_;refine ci O O (QOp.v O (show ¬((y:Nat):Int)=0 by omega)) ?_;rw[n7];refine H ?_;exact⟨(y,x%y),⟨hy,by simp only;omega,by simp only;rw[iY,<-rh,iY];exact hg⟩,hm,ah⟩
 .have hy0:y=0:=co h;subst hy0;clear h;rw[q8]at hg;subst hg;have q1:IntKind.i64.wrap (Int.tdiv (d:Int) (x:Int))=(A:Int):=by rw[GL,hA,wrap_i64 J J]
  have q2:IntKind.i64.wrap (Int.tdiv 1000000000 (x:Int))=(B:Int):=by
   have:=GL 1000000000 x;rw[show((1000000000:Nat):Int)=1000000000 from O]at this;rw[this,hB,wrap_i64 J J]
  refine cX 9 [25,26,27,28,29,30,31,32,33] ?_;refine H ?_;refine ci O O (QOp.v O (show ¬((x:Nat):Int)=0 by omega)) ?_;rw[q1];refine G k1 ?_;refine H ?_;refine ci O O (QOp.v O (show ¬((x:Nat):Int)=0 by omega)) ?_;rw[q2];refine G k2 ?_;exact cA
theorem Rq (d:Nat)(h2:d<=1000000000):HQ ((d:Rat)/1000000000) 8:=by
 have zd:Zb (d:Int):=aI J J;have zb:Zb (1000000000:Int):=aI Y Y;exact @HQ.div _ _ 4 4 (HQ.int (z:=(d:Int))) (HQ.int (z:=1000000000))
theorem sH (x:RR){p:Rat}{n:Nat}[hx:Vq x p n](hn:n<=1000000)(d:Nat)(h1:1<=d)(h2:d<=1000000000):aU 163 [.agg (eR x),I (d:Nat)] (.agg (eR (ofQ (p*((d:Rat)/1000000000))))):=by
 have c1:=My d h1 h2;have c2:=b9 x (ofQ ((d:Rat)/1000000000)) (hx:=hx) (hy:=Vq.ofQ (h:=Rq d h2)) J Y;generalize ofQ ((d:Rat)/1000000000)=D0,ofQ (p*((d:Rat)/1000000000))=E at *
 obtain⟨⟨xn,xl⟩,⟨yn,yl⟩⟩:=x;refine aD Proofs.Tryz.func163 ?_;refine cX 4 [5,6,7,8] ?_;refine G c1 ?_;refine G c2 ?_;exact cA
theorem E9 (x y:RR){p q:Rat}{n m:Nat}(hx:Vq x p n)(hy:Vq y q m)(hn:n<=1000000)(hm:m<=1000000):aU 105 [.sl ([x,y].map eR)] (.agg (eR (ofQ (p*q)))):=by
 have w1:=dh 1 ⟨Y,Y⟩;have z1:Zb 1:=aI Y Y;have c1:=iE (ofQ ((1:Int):Rat)) x (hx:=Vq.ofQ (h:=HQ.int)) (hy:=hx) Y J;rw[show((1:Int):Rat)=1 from O,uz]at c1;rw[show((1:Int):Rat)=1 from O]at w1;have c2:=iE (ofQ p) y (hx:=Vq.ofQ (h:=hx.hq)) (hy:=hy) J J;have g0:([x,y]:List RR)[0]?=some x:=O;have g1:([x,y]:List RR)[1]?=some y:=O;generalize hl:[x,y]=l at *
 have hll:l.length=2:=by rw[<-hl];rfl
 have hml:((l.map eR).length:Int)=2:=by rw[<-hl];rfl
 generalize ofQ (p*q)=E,ofQ p=P,ofQ (1:Rat)=O0 at *
 clear hx hy hl;refine aD Proofs.Tryz.func105 ?_;refine G w1 ?_;refine H ?_;rw[hml];refine ai (fun k:Nat=>k<=2) (fun k=>[(2,.ptr 2 1 0 0),(3,.ptr 3 1 0 0),(7,.sl (l.map eR)),(8,I 2),(9,I (k:Nat))]) (fun k=>[(2,1,⟨41,4,[zN],2⟩),(3,1,⟨41,4,[eR (if k=0 then O0 else if k=1 then P else E)],2⟩)]) (fun k=>2-k) 0 (aP _) ah ?_;intro k s hk;refine D ?_ ?_<;>intro h
 .have hlt:k<2:=cw h;clear h
  match k,hlt with
  |0,_ =>
   refine H ?_;refine ci O O (lK (n:=((((0:Nat):Int)):Int)) O O O O O J g0 O) ?_;refine G c1 ?_;refine H ?_;exact⟨1,Y,Y,ah⟩
  |1,_ =>
   refine H ?_;refine ci O O (lK (n:=((((1:Nat):Int)):Int)) O O O O O J g1 O) ?_;refine G c2 ?_;refine H ?_;exact⟨2,Y,Y,ah⟩
 .have hge:k=2:=co h;clear h;subst hge;exact cA
theorem HK (x:RR){p:Rat}{n:Nat}[hx:Vq x p n](hn:n<=1000)(d:Nat)(h1:1<=d)(h2:d<=1000000000):aU 104 [.agg (eR x),I (d:Nat)] (.agg (eR (ofQ (p*((d:Rat)/1000000000))))):=by
 have zd:Zb (d:Int):=aI J J;have zb:Zb (1000000000:Int):=aI Y Y;have w1:=dh (d:Int) ⟨J,J⟩;have w2:=dh 1000000000 ⟨Y,Y⟩;have c1:=E9 x (ofQ ((d:Int):Rat)) hx (Vq.ofQ (h:=HQ.int)) J Y;have hp:HQ (p*((d:Int):Rat)) (n+1+4):=@HQ.mul _ _ (n+1) 4 hx.hq HQ.int;have c2:=nc (ofQ (p*((d:Int):Rat))) (ofQ ((1000000000:Int):Rat)) (hx:=Vq.ofQ (h:=hp)) (hy:=Vq.ofQ (h:=HQ.int)) J Y aH;have e:p*((d:Int):Rat)/((1000000000:Int):Rat)=p*((d:Rat)/1000000000):=by
  rw[show((d:Int):Rat)=(d:Rat) from O,show((1000000000:Int):Rat)=1000000000 from O];grind
 rw[e]at c2;generalize ofQ (p*((d:Rat)/1000000000))=E,ofQ (p*((d:Int):Rat))=T,ofQ ((d:Int):Rat)=D0,ofQ ((1000000000:Int):Rat)=B at *
 clear hx hp;obtain⟨⟨xn,xl⟩,⟨yn,yl⟩⟩:=x;refine aD Proofs.Tryz.func104 ?_;refine H ?_;refine Nw ?_;iterate 3 all_goals ((first
  |refine nN (i:=0) aH rfl ?_
  |refine nN (i:=1) aH rfl ?_
  |refine nN (i:=2) aH rfl ?_
  |refine KH (i:=0) (j:=1) aH rfl rfl ?_ ?_
  |refine KH (i:=0) (j:=2) aH rfl rfl ?_ ?_)<;>(refine aT ?_;(first|refine iQ rfl ?_ | (apply ci;exact rfl;exact rfl;exact SW rfl w1 rfl rfl));refine bJ ?_))
 all_goals
  refine nN (i:=3) aH O ?_;refine aT ?_;refine aC (bb 1 O O O O O O O O O O O ah O ?_);refine bJ ?_;refine nN (i:=4) aH O ?_;refine br O (gF (Ghost.takeD (k:=8) (t:=8) O O O) ?_)
  (refine oX (gC O (c1) O ?_ O) ?_;.repeat' constructor)
  refine aT ?_;refine bJ ?_;refine nN (i:=5) aH O ?_;refine aT ?_;refine oJ O O O w2 O O ?_;refine bJ ?_;refine nN (i:=6) aH O ?_;refine aT ?_;refine oJ O O O c2 O O ?_;refine bJ ?_;refine nN (i:=7) aH O ?_;refine aT ?_;refine iQ O ?_;refine bJ ?_;refine⟨by decide +kernel,dO ?_⟩;exact cA
end Go.Pv
namespace Go.Pv
open Go.RowKit
variable [Globs]
variable {s:St}
theorem Ghost.freezeD {k gk k0 g0 i j n sz:Nat}{T:TypeId}{rows:List (List PV)}{c0:Cont}{row:List PV}(hk:Nat.beq k0 k=false)(ho:s.own k=(gk,some ⟨T,sz,rows,1⟩))(h0:s.own k0=(g0,some c0))(hkind:c0.kind=2)(hrow:c0.rows[i]?=some row)(hj:row[j]?=some (.als k gk 0 n))(hz0:Nat.blt 0 c0.sz=true)(hn:n=rows.length) :
  Ghost s ((s.setOwn k (gk+1) none).setOwn k0 g0 (some ⟨c0.ty,c0.sz,c0.rows.set i (row.set j (.sl rows)),2⟩)):=by
 intro C a w hX ⟨γ,h⟩;subst hn;have hne:k0≠k:=fun e=>by subst e;simp at hk
 obtain⟨h1,hle,-⟩:=h.drop hX ho;have ho1:(s.setOwn k (gk+1) none).own k0=(g0,some c0):=by rw[aO hne];exact h0
 have hsite:=h.sites k0 c0 (by rw[h0]);have hlt:=(cb hrow).1;have hlt2:=(cb hj).1;have hfr:∀v,Rep (aB C γ s w) (.als k gk 0 rows.length) v->Rep (aB C γ (s.setOwn k (gk+1) none) w) (.sl rows) v:=by
  intro v hp;refine .d ?_;rcases h.als_at hp ho with⟨q1,_,q3,q4⟩|⟨b,cap,cur,q1,q2,q3,q4,q5,q6,q7⟩
  .have:rows=[]:=(h.sites k _ (by rw[ho])).emp q1;rw[this,q4];exact .sl0 _ _
  .obtain⟨cur',g1,g2,g3,g4,g5⟩:=h.site_at ho q1 (h.cells_sz ho q1 q3 q6);have hb:(aB C γ (s.setOwn k (gk+1) none) w).ok b:=by
    have hbase:=h.base k _ b (by rw[ho]) q1;refine⟨hbase.2,fun hx=>?_,fun k' c' hc' hb'=>?_⟩
    .have:=hX b hx;omega
    .by_cases hk':k'=k
     .subst hk';rw[ar]at hc';cases hc'
     .rw[aO hk']at hc';exact hk' (h.inj k' k c' _ b hc' (by rw[ho]) hb' q1)
   rw[q2];simp only[gM];refine .sl rows b 0 cap sz (fun i j=>cur'.getD (i*sz+j) undef) hb g2 q4 g4 (fun i j row pv e1 e2=>?_) (fun i j row pv e1 e2=>?_)
   .obtain⟨u,f1,f2,_⟩:=g5 i j row pv e1 e2;have g1:w.heap[b]?=some (.cells cur' T (0,0)):=g1;show w.cell? _=_/\_;rw[ca g1,aM,f1];simp[f1,f2]
   .obtain⟨u,f1,_,f3⟩:=g5 i j row pv e1 e2;have hu:cur'.getD (i*sz+j) undef=u:=by simp[f1]
    simp only[hu];exact hle.drep f3
 have he:=qH (C:=C) (γ:=γ) (w:=w) (c1:=⟨c0.ty,c0.sz,c0.rows.set i (row.set j (.sl rows)),2⟩) ho1 O O ap;have hother:∀k',k'≠k0->((s.setOwn k (gk+1) none).setOwn k0 g0 (some ⟨c0.ty,c0.sz,c0.rows.set i (row.set j (.sl rows)),2⟩)).own k'=(s.setOwn k (gk+1) none).own k':=fun k' hk'=>aO hk';have hsome:∀k' c',(((s.setOwn k (gk+1) none).setOwn k0 g0 (some ⟨c0.ty,c0.sz,c0.rows.set i (row.set j (.sl rows)),2⟩)).own k').2=some c'->∃c'',((s.setOwn k (gk+1) none).own k').2=some c'':=by
  intro k' c' hc';by_cases hk':k'=k0
  .subst hk';exact⟨c0,by rw[ho1]⟩
  .rw[hother k' hk']at hc';exact⟨c',hc'⟩
 refine⟨γ,h1.defers,h1.size,fun r=>by rw[he];exact h1.regs r,fun k' c' hc'=>?_,fun k1 k2 c1 c2 b e1 e2 e3 e4=>?_,fun k' c' b e1 e2=>?_,h1.below,h1.top,fun c v hk=>by rw[he];exact h1.kept c v hk⟩
 .rw[he];by_cases hk':k'=k0
  .subst hk';rw[ar]at hc';have hc':=cK hc';subst hc';have hz0:0<c0.sz:=by simpa using hz0
   refine⟨fun hb=>?_,(fun b _ hz=>by simp only at hz;omega),(fun b _ hz=>by simp only at hz;omega),fun b hb _=>?_⟩
   .have:=hsite.emp hb;rw[this]at hrow;simp at hrow
   .obtain⟨cur,f1,f2,f3,f4,f5⟩:=hsite.at_ b hb hz0;refine⟨cur,f1,f2,by simpa using f3,fun r hr=>?_,fun i' j' row1 pv1 e1 e2=>?_⟩
    .rcases tV hr with hr|rfl
     .exact f4 r hr
     .simpa using f4 row (bC hrow)
    .by_cases hi:i'=i
     .subst hi;rw[fA hlt]at e1;have e1:=cK e1;subst e1;by_cases hjj:j'=j
      .subst hjj;rw[fA hlt2]at e2;have e2:=cK e2;subst e2;obtain⟨v,u1,u2,u3⟩:=f5 i' j' row _ hrow hj;rw[hkind]at u3;exact⟨v,u1,u2,hfr v u3⟩
      .rw[et (Ne.symm hjj)]at e2;obtain⟨v,u1,u2,u3⟩:=f5 i' j' row pv1 hrow e2;rw[hkind]at u3;exact⟨v,u1,u2,Rep.mono hle u3⟩
     .rw[et (Ne.symm hi)]at e1;obtain⟨v,u1,u2,u3⟩:=f5 i' j' row1 pv1 e1 e2;rw[hkind]at u3;exact⟨v,u1,u2,Rep.mono hle u3⟩
  .rw[hother k' hk']at hc';exact h1.sites k' c' hc'
 .obtain⟨d,hd⟩:=hsome k1 c1 e1;obtain⟨d',hd'⟩:=hsome k2 c2 e2;exact h1.inj k1 k2 d d' b hd hd' e3 e4
 .obtain⟨d,hd⟩:=hsome k' c' e1;exact h1.base k' d b hd e2
end Go.Pv
set_option maxHeartbeats 2000000
namespace Go.Pv
attribute [local irreducible] PWP POps PQuiet PSem aE aw aj ak
open Go.Proofs
theorem ve (l:List Int)(hl:l.length<=1000000000):Ret Tryz.prog .fresh 111 [.sl (l.map eN)] (.sl (l.map eN)):=by
 refine aD Proofs.Tryz.func111 ?_
 (refine cV 1 ?_;refine aR 1 ?_)
 refine iQ O ?_;refine bJ ?_;refine br O (sP layOk O O O (fun h0=>?_) ?_)
 .rw[h0];refine aT ?_
  (repeat ((fail_if_success (with_reducible refine fh ?_));refine wV O ?_))
  refine ao (Ghost.nilfs (t:=2) O) ?_;refine H ?_;exact x8 O O O trivial O
 .refine aT ?_;refine H ?_;refine aC (bb 0 O O O O O O O O O O O ah O ?_);refine H ?_;refine aC (bO 1 O O O O O O O O O O O ah (by intro row hr;obtain⟨p,_,rfl⟩:=aW.1 hr;rfl) O O aS aS ?_)
  (repeat ((fail_if_success (with_reducible refine fh ?_));refine wV O ?_))
  refine ao (Ghost.takeF (k:=5) (t:=2) l O O O O (fun _=>rfl)) ?_;refine H ?_;exact x8 O O O ah O
def qn (x:RR):RR:=ofQ x.val
def xA (x:SR):SR:=⟨x.x,qn x.c,⟨x.k.S,x.k.M.map qn⟩⟩
def Ss (ch:SR->SR)(b:BR):BR:=⟨b.w,qn b.a,b.l.map fun x=>ch (xA x)⟩
structure ChOk (f:FuncId) (caps:List PV) (ch:SR->SR) (x:SR):Prop where
 run:∀ {K:St->Prop} {s:St} {d g g4 g5 g400:Nat} {c4 c5 c400:Cont} {c a:Operand} {tys:Array TypeId} {ty:TypeId} {pos:String} {af:Array Edge},s.ev c=.clo f caps->s.ev a=.ptr 8 g 0 0 ->
 FitO s [(8,g,⟨196,7,[eS x],2⟩),(4,g4,c4),(5,g5,c5),(400,g400,c400)] ->
 (∀s1:St,K (({ reg:=s.reg,own:=(s1.over [] [(8,g,⟨196,7,[eS (ch x)],2⟩),(4,g4,c4),(5,g5,c5),(400,g400,c400)]).own }:St).putR d (.tup []))) ->
 Sm Tryz.prog lay.get s ⟨some d,.call ⟨.value c,#[a],tys⟩,ty,pos,af,none⟩ K
theorem M9 (x:SR):ChOk 117 [] id x:=by
 constructor;intro K s d g g4 g5 g400 c4 c5 c400 c a tys ty pos af hc ha ho hK;refine cz layOk O hc Tryz.func117 O Y O O ?_;show PWP _ _ _ _ (bB s (([a]:List Operand).map s.ev++[]));have hk:=hK s;simp only[id_eq]at hk;rw[Fit.over (l:=[]) ho]at hk;refine H ?_;exact dR O hk
theorem lH {α β:Type}{f:α->β}{l:List α}{k:Nat}{x:α}(h:l[k]?=some x):(l.take (k+1)).map f=(l.take k).map f++[f x]:=by rw[bR h,bj];rfl
theorem DM (b:BR)(hb:b.Lim)(h12:b.l.length<=1000)(hM:∀s∈b.l,s.k.M.length<=1000)(cl:FuncId)(caps:List PV)(ch:SR->SR)(hch:∀s∈b.l,ChOk cl caps ch (xA s)) :
  aU 116 [.agg (eB b),.clo cl caps] (.agg (eB (Ss ch b))):=by
 have h1:=Nb b.a (hx:=hb.a.v) Y;have hml:(b.l.map eS).length=b.l.length:=ap;obtain⟨w,ba,l⟩:=b;simp only at *
 have hll:=hb.l.1;rw[show ofQ ba.val=qn ba from O]at h1;clear hb;generalize hG:(fun x=>ch (xA x))=G0;rw[Ss,hG];generalize qn ba=A0 at *
 refine aD Proofs.Tryz.func116 ?_;refine H ?_;refine a_ [(6,5),(7,5)] aH aH ?_;refine G h1 ?_;refine H ?_;refine ao (Ghost.nilcell (k:=400) (k0:=5) (i:=0) (j:=5) (row:=I w::(eR A0++[.nil])) 196 7 1 O O O O O O O) ?_;refine ai (fun i:Nat=>i<=l.length) (fun i=>[(1,.clo cl caps),(4,.ptr 4 1 0 0),(5,.ptr 5 1 0 0),(18,.sl (l.map eS)),(19,I l.length),(20,I (i:Nat))])
  (fun i=>[(4,1,⟨128,6,[I 0::(zN++[.nil])],2⟩),(5,1,⟨128,6,[I w::(eR A0++[.als 400 (1+i) 0 (((l.take i).map G0).map eS).length])],2⟩),(400,1+i,⟨196,7,((l.take i).map G0).map eS,1⟩)]) (fun i=>l.length-i) 0 (aP _) ⟨O,O,O,O,by rw[<-hml];rfl,ah⟩ ?_
 intro i s hi;refine D ?_ ?_<;>intro h
 .have hlt:i<l.length:=cw h;clear h;obtain⟨x,hx⟩:=ay hlt;have hxm:=bC hx;have hxl:=hll x hxm;have hcx:=hch x hxm;have hMx:=hM x hxm;have hrow:=lH (f:=G0) hx;have hil:((l.take i).map G0).length<=1000:=by rw[aF,bc];omega
  have hw:=dN i;have hGx:G0 x=ch (xA x):=by rw[<-hG]
  generalize G0 x=y,(l.take i).map G0=B at *
  have e1:=Nb x.c (hx:=hxl.c.v) Y;rw[show ofQ x.c.val=qn x.c from O]at e1;have e2:=(ve x.k.S hxl.k.ls).shared_of_fresh;have e3:∀m∈x.k.M,aU 182 [.agg (eR m)] (.agg (eR (qn m))):=fun m hm=>Nb m (hx:=(hxl.k.m m hm).v) Y;have hmm:(x.k.M.map eR).length=x.k.M.length:=ap;obtain⟨xx,xc,xS,xM⟩:=x;simp only[xA]at *
  generalize qn xc=XC at *
  refine aN hx ?_;refine cV 5 ?_;refine ao (e_ 8) ?_;refine a_ [(11,8),(12,8)] aH aH ?_;refine G e1 ?_;refine G e2 ?_;refine H ?_;refine aQ [(1,.clo cl caps),(4,.ptr 4 1 0 0),(5,.ptr 5 1 0 0),(8,.ptr 8 ((s.own 8).1+2+1) 0 0),(18,.sl (l.map eS)),(19,I l.length),(20,I (i:Nat)),(37,.sl (xM.map eR)),(38,I (xM.map eR).length),(39,I ((0:Nat):Int))]
   [(4,1,⟨128,6,[I 0::(zN++[.nil])],2⟩),(5,1,⟨128,6,[I w::(eR A0++[.als 400 (1+i) 0 (B.map eS).length])],2⟩),(400,1+i,⟨196,7,B.map eS,1⟩),(8,(s.own 8).1+2+1,⟨196,7,[I xx::(eR XC++[.sl (xS.map eN),.nil])],2⟩)]
   ah ?_
  generalize (s.own 8).1+2+1=g8;rw[hmm];intro s1;refine ao (Ghost.nilcell (k:=300) (k0:=8) (i:=0) (j:=6) (row:=I xx::(eR XC++[.sl (xS.map eN),.nil])) 41 4 1 O O O O O O O) ?_;have hg3:∃g3,(s1.own 300).1+1=g3:=⟨_,O⟩;obtain⟨g3,hg3⟩:=hg3;refine ai (fun k:Nat=>k<=xM.length) (fun k=>[(1,.clo cl caps),(4,.ptr 4 1 0 0),(5,.ptr 5 1 0 0),(8,.ptr 8 g8 0 0),(18,.sl (l.map eS)),(19,I l.length),(20,I (i:Nat)),(37,.sl (xM.map eR)),(38,I xM.length),(39,I (k:Nat))])
   (fun k=>[(4,1,⟨128,6,[I 0::(zN++[.nil])],2⟩),(5,1,⟨128,6,[I w::(eR A0++[.als 400 (1+i) 0 (B.map eS).length])],2⟩),(400,1+i,⟨196,7,B.map eS,1⟩),(8,g8,⟨196,7,[I xx::(eR XC++[.sl (xS.map eN),.als 300 (g3+k) 0 (((xM.take k).map qn).map eR).length])],2⟩),(300,g3+k,⟨41,4,((xM.take k).map qn).map eR,1⟩)]) (fun k=>xM.length-k) 0 (aP _)
   ⟨O,O,O,O,O,O,O,O,O,O,O,O,O,by rw[<-hg3];rfl,by rw[<-hg3];rfl,bh⟩ ?_
  clear hg3;intro k s2 hk;refine D ?_ ?_<;>intro h
  .have hlk:k<xM.length:=cw h;clear h;obtain⟨m,hm⟩:=ay hlk;have e4:=e3 m (bC hm);have hrk:=lH (f:=qn) hm;have hkl:((xM.take k).map qn).length<=1000:=by rw[aF,bc];omega
   have hwk:=dN k;generalize qn m=n,(xM.take k).map qn=E at *
   refine aN hm ?_;refine cV 9 ?_;refine bM [48,300] [8] 9 [5,6,9] aH aH ?_;refine G e4 ?_;refine H ?_;refine jQ O O O (bb 1 O O O O O O O O O O O ah O ⟨fU O,?_⟩);refine H ?_;refine jQ O O O (bO 1 O O O O O O O O O O O ah (by intro row hr;first|(simp at hr;subst hr;rfl)|(simp at hr;obtain⟨_,_,rfl⟩:=hr;rfl)|simp at hr) O O aS aS ⟨fU O,?_⟩);refine H ?_;have hb3:g3+(k+1)=g3+k+1:=O;refine⟨k+1,hlk,J,O,O,O,O,O,O,O,O,O,congrArg I hwk,O,O,O,?_,?_,bh⟩
   .rw[hrk,hb3];refine Eq.trans (b:=(g8,some (Cont.mk 196 7 [I xx::(eR XC++[.sl (xS.map eN),.als 300 (g3+k+1) 0 (E.map eR++[eR n]).length])] 2))) O ?_;rw[show(E++[n]).map eR=E.map eR++[eR n] by rw[bj];rfl]
   .rw[hrk,hb3,show(E++[n]).map eR=E.map eR++[eR n] by rw[bj];rfl];rfl
  .have hke:k=xM.length:=co h;clear h;subst hke;rw[bI];refine ao (Ghost.freezeD (k:=300) (k0:=8) (i:=0) (j:=6) (row:=I xx::(eR XC++[.sl (xS.map eN),.als 300 (g3+xM.length) 0 ((xM.map qn).map eR).length])) O O O O O O O O) ?_
   (refine cV 11 ?_;refine aR 1 ?_)
   refine iQ O ?_;refine bJ ?_;refine br O (hcx.run O O ⟨O,O,O,O,bh⟩ fun s3=>?_);refine aT ?_;refine H ?_;refine aC (bb 1 O O O O O O O O O O O ah O ?_);refine H ?_;refine aC (bO 1 O O O O O O O O O O O ah fW O O aS aS ?_);refine H ?_;have hb4:1+(i+1)=1+i+1:=O;refine⟨i+1,hlt,J,O,O,O,O,O,congrArg I hw,O,?_,?_,bh⟩
   .rw[hrow,hb4];refine Eq.trans (b:=(1,some (Cont.mk 128 6 [I w::(eR A0++[.als 400 (1+i+1) 0 (B.map eS++[eS y]).length])] 2))) ?_ ?_
    .rw[hGx];rfl
    .rw[show(B++[y]).map eS=B.map eS++[eS y] by rw[bj];rfl]
   .rw[hrow,hb4,show(B++[y]).map eS=B.map eS++[eS y] by rw[bj];rfl,hGx];rfl
 .have hie:i=l.length:=co h;clear h;subst hie;rw[bI];refine ao (Ghost.freezeD (k:=400) (k0:=5) (i:=0) (j:=5) (row:=I w::(eR A0++[.als 400 (1+l.length) 0 ((l.map G0).map eS).length])) O O O O O O O O) ?_;exact cA
structure StOk (t:ST):Prop where
 x : -1000000<=t.x/\t.x<=1000000
 w:1<=t.w/\t.w<=100000
 n:2<=t.L.length/\t.L.length<=30
 h:t.H0.length+1=t.L.length
 L:∀l∈t.L,0<=l/\l<=100000
 H0:∀h∈t.H0,0<=h/\h<=100000
 asc:∀i a b,t.L[i]?=some a->t.L[i+1]?=some b->a<b
theorem iA {n lo hi:Int}(h:aK n lo hi=true):lo<=n/\n<=hi:=by
 simp[aK]at h;exact h
theorem QN {t:ST}{u:Option ST}(h:ki t u=0):StOk t:=by
 have hp:=uL h;have hf:gP t=0:=by
  unfold ki at h;rw[if_pos hp]at h;split at h
  .exact h
  .split at h
   .exact h
   .contradiction
 obtain⟨p1,p2⟩:=wu hp;rw[gP]at hf;split at hf
 rotate_left
 .omega
 rename_i hn;obtain⟨n1,n2⟩:=kx hn.1;split at hf
 rotate_left
 .contradiction
 rename_i hl;have lv:∀i l,t.L[i]?=some l->aK l 0 100000=true/\¬(0<i/\l<=t.L.getD (i-1) 0):=fun i l hi=>by
  have:=qK hl hi;rw[qk]at this;split at this
  .rename_i g;split at this
   .omega
   .rename_i g2;exact⟨g,g2⟩
  .omega
 refine⟨p1,p2,⟨n1,n2⟩,J,fun l hm=>?_,fun x hm=>?_,fun i a b ha hb=>?_⟩
 .obtain⟨i,hi⟩:=i5.1 hm;exact iA (lv i l hi).1
 .obtain⟨i,hi⟩:=i5.1 hm;have:=qK hf hi;rw[BK]at this;split at this
  .rename_i g;exact iA g
  .omega
 .have h2:=(lv (i+1) b hb).2;rw[iC,cN,ha]at h2;have h2:¬(0<i+1/\b<=a):=h2;omega
def Dw (d:Nat)(w h:Int):RR:=ofQ (((2*h*w:Int):Rat)*((d:Rat)/1000000000))
def qo (d:Nat)(t:ST):List RR:=t.H0.map (Dw d t.w)++[ofQ 0]
def iq (d:Nat)(t:ST):SR:=⟨t.x,ofQ 0,⟨t.L,qo d t⟩⟩
def eH (d:Nat)(l:List ST):List SR:=l.map (iq d)
theorem Df {d:Nat}{l:List ST}{k:Nat}{t:ST}(h:l[k]?=some t):(eH d (l.take (k+1))).map eS=(eH d (l.take k)).map eS++[eS (iq d t)]:=by rw[bR h,eH,eH,bj,bj];rfl
theorem A9 {h w:Int}(a:0<=h/\h<=100000)(b:1<=w/\w<=100000):0<=2*h*w/\2*h*w<=20000000000:=by
 have h1:2*h*w<=2*h*100000:=zC b.2 J;have h2:0<=2*h*w:=iU J J;omega
theorem rZ (l:List Int)(hl:l.length<=1000000000):Ret Tryz.prog .fresh 81 [.sl (l.map eN)] (.sl (l.map eN)):=by
 refine aD Proofs.Tryz.func81 ?_;refine H ?_;refine aC (bb 0 O O O O O O O O O O O ah O ?_);refine H ?_;refine aC (bO 1 O O O O O O O O O O O ah (by intro row hr;obtain⟨p,_,rfl⟩:=aW.1 hr;rfl) O O aS aS ?_)
 (repeat ((fail_if_success (with_reducible refine fh ?_));refine wV O ?_))
 refine ao (Ghost.takeF (k:=3) (t:=2) l O O O O (fun _=>rfl)) ?_;refine H ?_;exact x8 O O O ah O
theorem tB (s:SHP)(hs:s.Len)(d:Nat)(he:ng s (d:Int)=0)(hd1:1<=d)(hd2:d<=1000000000)(hk:∀t∈s.st,StOk t)(h40:s.st.length<=40):aU 52 [.agg (fx s),I (d:Nat)] (.tup [.sl ((eH d s.st).map eS),I 0]):=by
 have h1:=te s hs (d:Int);rw[he]at h1;have w0:=dh 0 ⟨Y,Y⟩;rw[show(((0:Int):Rat))=0 from O]at w0;have hml:((s.st.map eT).length:Int)=s.st.length:=ap;obtain⟨nm,len,st,light,it⟩:=s;simp only at *
 clear he hs;refine aD Proofs.Tryz.func52 ?_;refine ax h1 ?_;refine cV 5 ?_;refine ao (Ghost.nilreg (k:=1007) (t:=7) 196 7 1 O O) ?_;refine H ?_;rw[hml];refine ai (fun i:Nat=>i<=st.length) (fun i=>[(1,I (d:Nat)),(2,.ptr 2 1 0 0),(7,.als 1007 (1+i) 0 ((eH d (st.take i)).map eS).length),(20,.sl (st.map eT)),(21,I st.length),(22,I (i:Nat))]) (fun i=>[(2,1,⟨27,9,[fx ⟨nm,len,st,light,it⟩],2⟩),(1007,1+i,⟨196,7,(eH d (st.take i)).map eS,1⟩)]) (fun i=>st.length-i) 0 (aP _) ah ?_;intro i s hi;refine D ?_ ?_<;>intro h
 .have hlt:i<st.length:=cw h;clear h;obtain⟨t,hx⟩:=ay hlt;have ok:=hk t (bC hx);have hsn:=Df (d:=d) hx;have hsl:(eH d (st.take i)).length<=40:=by rw[eH,aF,bc];omega
  have hw:=dN i;have e2:=(ve t.L (by have:=ok.n;omega)).shared_of_fresh;have hmh:((t.H0.map eN).length:Int)=t.H0.length:=ap;have hn:=ok.n;have hh:=ok.h;generalize hS:eH d (st.take i)=S at *
  obtain⟨tx,tw,tL,tH⟩:=t;simp only at *
  refine aN hx ?_;refine G e2 ?_;refine H ?_;rw[hmh];refine aQ [(1,I (d:Nat)),(2,.ptr 2 1 0 0),(7,.als 1007 (1+i) 0 (S.map eS).length),(9,.ptr 9 ((s.own 9).1+1) 0 0),(10,.ptr 10 ((s.own 10).1+1) 0 0),(20,.sl (st.map eT)),(21,I st.length),(22,I (i:Nat)),(31,.sl (tH.map eN)),(32,I tH.length),(33,I ((0:Nat):Int))] [(2,1,⟨27,9,[fx ⟨nm,len,st,light,it⟩],2⟩),(1007,1+i,⟨196,7,S.map eS,1⟩),(9,(s.own 9).1+1,⟨115,4,[eT ⟨tx,tw,tL,tH⟩],2⟩),(10,(s.own 10).1+1,⟨194,2,[[.sl (tL.map eN),.nil]],2⟩)] ah ?_;generalize (s.own 9).1+1=g9;generalize (s.own 10).1+1=g10;intro s1;refine ao (Ghost.nilcell (k:=300) (k0:=10) (i:=0) (j:=1) (row:=[.sl (tL.map eN),.nil]) 41 4 1 O O O O O O O) ?_;have hg3:∃g3,(s1.own 300).1+1=g3:=⟨_,O⟩;obtain⟨g3,hg3⟩:=hg3;refine ai (fun k:Nat=>k<=tH.length) (fun k=>[(1,I (d:Nat)),(2,.ptr 2 1 0 0),(7,.als 1007 (1+i) 0 (S.map eS).length),(9,.ptr 9 g9 0 0),(10,.ptr 10 g10 0 0),(20,.sl (st.map eT)),(21,I st.length),(22,I (i:Nat)),(31,.sl (tH.map eN)),(32,I tH.length),(33,I (k:Nat))])
   (fun k=>[(2,1,⟨27,9,[fx ⟨nm,len,st,light,it⟩],2⟩),(1007,1+i,⟨196,7,S.map eS,1⟩),(9,g9,⟨115,4,[eT ⟨tx,tw,tL,tH⟩],2⟩),(10,g10,⟨194,2,[[.sl (tL.map eN),.als 300 (g3+k) 0 (((tH.take k).map (Dw d tw)).map eR).length]],2⟩),(300,g3+k,⟨41,4,((tH.take k).map (Dw d tw)).map eR,1⟩)]) (fun k=>tH.length-k) 0 (aP _)
   ⟨O,O,O,O,O,O,O,O,O,O,O,O,O,O,by rw[<-hg3];rfl,by rw[<-hg3];rfl,bh⟩ ?_
  clear hg3;intro k s2 hkl;refine D ?_ ?_<;>intro h
  .have hlk:k<tH.length:=cw h;clear h;obtain⟨x,hm⟩:=ay hlk;have hxl:=ok.H0 x (bC hm);have hvl:0<=2*x*tw/\2*x*tw<=20000000000:=A9 hxl ok.w;obtain⟨v1,v2⟩:=hvl;have zv:Zb (2*x*tw):=aI J J;have u1:=dh (2*x*tw) ⟨J,J⟩;have u2:=HK (ofQ ((2*x*tw:Int):Rat)) (hx:=Vq.ofQ (h:=HQ.int)) Y d hd1 hd2;rw[show ofQ (((2*x*tw:Int):Rat)*((d:Rat)/1000000000))=Dw d tw x from O]at u2;have q1:=gp (2*x);have q2:=gp (2*x*tw);have hrk:=lH (f:=Dw d tw) hm;have hkl2:((tH.take k).map (Dw d tw)).length<=1000:=by rw[aF,bc];omega
   have hwk:=dN k;generalize Dw d tw x=n,(tH.take k).map (Dw d tw)=E at *
   refine aN hm ?_;refine cV 12 ?_;refine bM [47,300] [10] 13 [10,11,13] aH aH ?_;refine H ?_;rw[q1];refine H ?_;rw[q2];refine oJ O O O u1 O O ?_;refine G u2 ?_;refine H ?_;refine jQ O O O (bb 1 O O O O O O O O O O O ah O ⟨fU O,?_⟩);refine H ?_;refine jQ O O O (bO 1 O O O O O O O O O O O ah (by intro row hr;first|(simp at hr;subst hr;rfl)|(simp at hr;obtain⟨_,_,rfl⟩:=hr;rfl)|simp at hr) O O aS aS ⟨fU O,?_⟩);refine H ?_;have hb3:g3+(k+1)=g3+k+1:=O;refine⟨k+1,hlk,J,O,O,O,O,O,O,O,O,O,O,congrArg I hwk,O,O,O,?_,?_,bh⟩
   .rw[hrk,hb3,show(E++[n]).map eR=E.map eR++[eR n] by rw[bj];rfl];rfl
   .rw[hrk,hb3,show(E++[n]).map eR=E.map eR++[eR n] by rw[bj];rfl];rfl
  .have hke:k=tH.length:=co h;clear h;subst hke;rw[bI];have hsr:qo d ⟨tx,tw,tL,tH⟩=tH.map (Dw d tw)++[ofQ 0]:=O;have hslen:(tH.map (Dw d tw)).length<=1000:=by rw[aF];omega
   generalize tH.map (Dw d tw)=E at *
   refine cV 14 ?_;refine bM [54,300] [10] 6 [3,4,6] aH aH ?_;refine G w0 ?_;refine H ?_;refine jQ O O O (bb 1 O O O O O O O O O O O ah O ⟨fU O,?_⟩);refine H ?_;refine jQ O O O (bO 1 O O O O O O O O O O O ah (by intro row hr;first|(simp at hr;subst hr;rfl)|(simp at hr;obtain⟨_,_,rfl⟩:=hr;rfl)|simp at hr) O O aS aS ⟨fU O,?_⟩);refine cV 15 ?_;refine ao (Ghost.freezeD (k:=300) (k0:=10) (i:=0) (j:=1) (row:=[.sl (tL.map eN),.als 300 (g3+tH.length+1) 0 (E.map eR++[eR (ofQ 0)]).length]) O O O O O O O O) ?_;refine bL [63,1007] [6,7,8] aH ?_;refine G w0 ?_;refine H ?_;refine jQ O O O (bb 1 O O O O O O O O O O O ah O ⟨fU O,?_⟩);refine H ?_;refine jQ O O O (bO 1 O O O O O O O O O O O ah (by intro row hr;first|(simp at hr;subst hr;rfl)|(simp at hr;obtain⟨_,_,rfl⟩:=hr;rfl)|simp at hr) O O aS aS ⟨fU O,?_⟩);refine H ?_;have hrow:(eH d (st.take (i+1))).map eS=S.map eS++[[I tx]++eR (ofQ 0)++[.sl (tL.map eN),.sl (E.map eR++[eR (ofQ 0)])]]:=by
    rw[hsn,iq,hsr,show(eS ⟨tx,ofQ 0,⟨tL,E++[ofQ 0]⟩⟩)=[I tx]++eR (ofQ 0)++[.sl (tL.map eN),.sl ((E++[ofQ 0]).map eR)] from O,bj];rfl
   refine⟨i+1,hlt,J,O,O,?_,O,O,congrArg I hw,O,?_,bh⟩
   .rw[hrow];rfl
   .rw[hrow];rfl
 .have hie:i=st.length:=co h;clear h;subst hie;rw[bI]
  (repeat ((fail_if_success (with_reducible refine fh ?_));refine wV O ?_))
  refine ao (Ghost.takeD (k:=1007) (t:=4) O O O) ?_;exact cA
theorem wr (x y:RR){p q:Rat}{n m:Nat}[hx:Vq x p n][hy:Vq y q m](hn:n<=20000000)(hm:m<=20000000):aU 279 [.agg (eR x),.agg (eR y)] (.agg (eR (ofQ (p+q)))):=by
 have h:=b8 x y hn hm;generalize ofQ (p+q)=X at *
 refine aD Proofs.Tryz.func279 ?_;refine G h ?_;exact cA
theorem A5 (x y:RR){p q:Rat}{n m:Nat}[hx:Vq x p n][hy:Vq y q m](hn:n<=20000000)(hm:m<=20000000):aU 160 [.agg (eR x),.agg (eR y)] (.agg (eR (ofQ (p*q)))):=by
 have h:=b9 x y hn hm;generalize ofQ (p*q)=X at *
 refine aD Proofs.Tryz.func160 ?_;refine G h ?_;exact cA
theorem Qb (x y:RR){p q:Rat}{n m:Nat}[hx:Vq x p n][hy:Vq y q m](hn:n<=10000000)(hm:m<=10000000):aU 277 [.agg (eR x),.agg (eR y)] (.agg (eR (ofQ (p-q)))):=by
 have h:=iO x y hn hm;generalize ofQ (p-q)=X at *
 refine aD Proofs.Tryz.func277 ?_;refine G h ?_;exact cA
theorem lO:aU 19 [I 0] (.agg (eR (ofQ 0))):=by
 have:=cf 0 ⟨Y,Y⟩;rwa [show(((0:Int):Rat))=0 from O]at this
theorem QG (x:RR){p:Rat}{n:Nat}[hx:Vq x p n](hn:n<=8000000):aU 278 [.agg (eR x)] (I (sgn p)):=by
 have h0:=lO;have hc:=jv x (ofQ 0) J Y;rw[mA,uv,jI]at hc;generalize sgn p=g,ofQ 0=Z at *
 refine aD Proofs.Tryz.func278 ?_;refine cX 4 [3,4,5,2] ?_;refine G h0 ?_;refine ax hc ?_;exact cB
theorem K4 (s:SR)(hs:s.Lim)(a:AR){z t:Rat}{n m:Nat}[ha:Va a z t n m](hn:n<=1000000)(hm:m<=1000000):aU 225 [.agg (eS s),.agg (eA a)] (.agg (eR (ofQ (yQ s z t)))):=by
 have hx:Zb s.x:=aI hs.x.1 hs.x.2;have hw:=cf s.x hs.x;have e1:=wr s.c a.z (hx:=hs.c.v) (hy:=ha.z) Y J;have v1:Vq (ofQ (s.c.val+z)) (s.c.val+z) (13+(n+1)+1):=Vq.ofQ (h:=@HQ.add _ _ 13 (n+1) hs.c.v.hq ha.z.hq);have e2:=A5 a.t (ofQ (s.x:Rat)) (hx:=ha.t) J Y;have v2:Vq (ofQ (t*(s.x:Rat))) (t*(s.x:Rat)) (m+1+4):=Vq.ofQ (h:=@HQ.mul _ _ (m+1) 4 ha.t.hq HQ.int);have e3:=wr (ofQ (s.c.val+z)) (ofQ (t*(s.x:Rat))) (hx:=v1) (hy:=v2) J J;rw[show s.c.val+z+t*(s.x:Rat)=yQ s z t by rw[yQ];grind]at e3;generalize ofQ (yQ s z t)=X,ofQ (s.c.val+z)=X1,ofQ (t*(s.x:Rat))=X2,ofQ (s.x:Rat)=X3 at *
 obtain⟨x,c,k⟩:=s;obtain⟨az,at'⟩:=a;simp only at *
 refine aD Proofs.Tryz.func225 ?_;refine cX 12 [5,6,7,8,9,10,11,12,13,14,15,16] ?_;refine G e1 ?_;refine G hw ?_;refine G e2 ?_;refine G e3 ?_;exact cA
theorem QF {c:CR}(hc:c.Lim)(k:Nat):HQ (c.s k) 4:=by
 have h:=rD hc k;have z1:Zb (c.S.getD k 0):=aI h.1 h.2;exact HQ.int
theorem QU {c:CR}(hc:c.Lim){p:Rat}{n N:Nat}(hp:HQ p n)(k:Nat):HQ (je c.s N p k) (n+4):=by
 rw[je];split
 .rw[v_];split
  .exact(QF hc (k+1)).mono J
  .exact hp.mono J
 .exact hp.mono J
theorem Rp {c:CR}(hc:c.Lim){p:Rat}{n N:Nat}(hp:HQ p n)(k:Nat):HQ (je c.s N p k-c.s k) (n+9):=(@HQ.sub _ _ _ _ (QU hc hp k) (QF hc k)).mono J
theorem SP {c:CR}(hc:c.Lim)(k:Nat):HQ (c.m k) 13:=by
 rw[CR.m];by_cases hk:k<c.M.length
 .exact((hc.m _ (bC (bF (d:=RR.zero) hk))).v).hq
 .rw[cN,fe J];show HQ RR.zero.val 13;rw[RR.zero_val];exact HQ.zero.mono Y
theorem Ql {x:Rat}{n:Nat}(h:HQ x n):HQ (gA x) (n+4):=by
 rw[gA];split
 .exact h.mono J
 .exact HQ.zero.mono J
theorem Cq {c:CR}(hc:c.Lim){p:Rat}{n N:Nat}(hp:HQ p n)(k:Nat):HQ (dq c.s c.m N p k) (n+30):=(@HQ.mul _ _ 13 (n+9+4) (SP hc k) (Ql (Rp hc hp k))).mono J
noncomputable def Mb (c:CR)(y:RR)(p:Rat)(N i:Nat):RR:=@ite _ (i+1<N/\c.s (i+1)<p) (Classical.propDecidable _) (ofQ (c.s (i+1))) y
theorem So {c:CR}(hc:c.Lim){y:RR}{p:Rat}{N i n:Nat}[hy:Vq y p n]:Vq (Mb c y p N i) (je c.s N p i) (n+8):=by
 rw[Mb,je];by_cases h1:i+1<N
 .rw[if_pos h1,v_];by_cases h2:c.s (i+1)<p
  .rw[if_pos ⟨h1,h2⟩,if_pos h2];exact rN (Vq.ofQ (h:=QF hc (i+1))) J
  .rw[if_neg (fun h=>h2 h.2),if_neg h2];exact rN hy J
 .rw[if_neg (fun h=>h1 h.1),if_neg h1];exact rN hy J
theorem Ev (c:CR)(hc:c.Lim)(h0:fb c=0)(y:RR){p:Rat}{n:Nat}[hy:Vq y p n](hn:n<=100000):aU 224 [.agg (eC c),.agg (eR y)] (.agg (eR (ofQ (kR c.S.length c.s c.m p)))):=by
 obtain⟨h40,hSM,-,hasc⟩:=ic h0;have w0:=lO;have hph:=hy.hq;rw[kR,kK fun i hi=>hasc i hi];have hSm:(c.S.map eN).length=c.S.length:=ap;have hB:∀i,i<=40->i*(n+1+30+1)+4<=5000000:=fun i hi=>by have:=eO hi (j_ (n+1+30+1));omega
 have vs:∀i,Vq (ofQ (aq (dq c.s c.m c.S.length p) i)) (aq (dq c.s c.m c.S.length p) i) (i*(n+1+30+1)+4):=fun i=>Vq.ofQ (h:=cd i fun k _=>Cq hc hph k);generalize hN:c.S.length=N at *
 refine aD Proofs.Tryz.func224 ?_;refine G w0 ?_;refine H ?_;refine ai (fun i:Nat=>i<=N) (fun i=>[(2,.ptr 2 1 0 0),(3,.ptr 3 1 0 0),(4,.ptr 4 1 0 0),(5,.ptr 5 1 0 0),(6,I (i:Nat))])
  (fun i=>[(2,1,⟨194,2,[eC c],2⟩),(3,1,⟨41,4,[eR y],2⟩),(4,1,⟨41,4,[zN],2⟩),(5,1,⟨41,4,[eR (ofQ (aq (dq c.s c.m N p) i))],2⟩)]) (fun i=>N-i) 0 (aP _) ah ?_
 intro i s hi;refine D ?_ ?_<;>intro h
 .have hlt:i<N:=by have:=bk h;rw[hSm]at this;omega
  clear h;have hx:=bF (l:=c.S) (i:=i) (d:=0) J;have hmx:=bF (l:=c.M) (i:=i) (d:=RR.zero) J;have hxi:=hc.s _ (bC hx);have hmv:=(hc.m _ (bC hmx)).v;have hw:=cf _ hxi;have hnx:=dN i;refine cV 5 ?_;iterate 6 refine iQ O ?_
  refine KK [(2,.ptr 2 1 0 0),(3,.ptr 3 1 0 0),(4,.ptr 4 1 0 0),(5,.ptr 5 1 0 0),(6,I (i:Nat)),(7,.ptr 7 ((s.own 7).1+1) 0 0)]
   [(2,1,⟨194,2,[eC c],2⟩),(3,1,⟨41,4,[eR y],2⟩),(4,1,⟨41,4,[zN],2⟩),(5,1,⟨41,4,[eR (ofQ (aq (dq c.s c.m N p) i))],2⟩),(7,(s.own 7).1+1,⟨41,4,[eR (Mb c y p N i)],2⟩)] ?_ (fun s3=>?_)
  .by_cases h1:i+1<N
   .have hx1:=bF (l:=c.S) (i:=i+1) (d:=0) J;have hw1:=cf _ (hc.s _ (bC hx1));have zb1:Zb (c.S.getD (i+1) 0):=aI (hc.s _ (bC hx1)).1 (hc.s _ (bC hx1)).2;have hc1:=jv y (ofQ ((c.S.getD (i+1) 0:Int):Rat)) J Y;have hg:=kO (p-((c.S.getD (i+1) 0:Int):Rat));have htp:Mb c y p N i=if 0<sgn (p-((c.S.getD (i+1) 0:Int):Rat)) then ofQ ((c.S.getD (i+1) 0:Int):Rat) else y:=by
     rw[Mb];by_cases hlt1:c.s (i+1)<p
     .rw[if_pos ⟨h1,hlt1⟩,if_pos (hg.2 (by have:((c.S.getD (i+1) 0:Int):Rat)<p:=hlt1;grind))];rfl
     .rw[if_neg (fun h=>hlt1 h.2),if_neg (fun h=>hlt1 (by have:=hg.1 h;show((c.S.getD (i+1) 0:Int):Rat)<p;grind))]
    rw[htp];clear hg htp;generalize sgn (p-((c.S.getD (i+1) 0:Int):Rat))=sg at *
    generalize hW1:ofQ ((c.S.getD (i+1) 0:Int):Rat)=W1 at *
    generalize c.S.getD (i+1) 0=x1 at *
    refine cX 18 [18,19,20,21,22,23,24,25,26,27,28,29,30,31,32,33,34,35] ?_;refine H ?_;rw[hnx];refine fi ?_ ?_<;>intro h
    .clear h;refine H ?_;rw[hnx];refine tp O O O O O O O hx1 O ?_;refine G hw1 ?_;refine ax hc1 ?_;refine D ?_ ?_<;>intro h
     .rw[if_pos (bk h)];clear h;refine H ?_;rw[hnx];refine tp O O O O O O O hx1 O ?_;refine G hw1 ?_;refine H ?_;exact ah
     .rw[if_neg (bS h)];clear h;refine H ?_;exact ah
    .exfalso;have:=bS h;rw[hSm]at this;omega
   .have htp:Mb c y p N i=y:=by rw[Mb,if_neg (fun h=>h1 h.1)]
    rw[htp];clear htp;refine cX 18 [18,19,20,21,22,23,24,25,26,27,28,29,30,31,32,33,34,35] ?_;refine H ?_;rw[hnx];refine fi ?_ ?_<;>intro h
    .exfalso;have:=bk h;rw[hSm]at this;omega
    .clear h;refine H ?_;exact ah
  have vT:Vq (Mb c y p N i) (je c.s N p i) (n+8):=So hc;have zbi:Zb (c.S.getD i 0):=aI hxi.1 hxi.2;have e1:=Qb (Mb c y p N i) (ofQ ((c.S.getD i 0:Int):Rat)) (hx:=vT) J Y;rw[show je c.s N p i-((c.S.getD i 0:Int):Rat)=je c.s N p i-c.s i from O]at e1;have vD:Vq (ofQ (je c.s N p i-c.s i)) (je c.s N p i-c.s i) (n+1+9):=Vq.ofQ (h:=Rp hc hph i);have e2:=QG (ofQ (je c.s N p i-c.s i)) (hx:=vD) J;have e3:=A5 (c.M.getD i RR.zero) (ofQ (je c.s N p i-c.s i)) (hx:=hmv) (hy:=vD) Y J;have hg:=kO (je c.s N p i-c.s i);have hP:dq c.s c.m N p i=(c.M.getD i RR.zero).val*gA (je c.s N p i-c.s i):=O;have hS:aq (dq c.s c.m N p) (i+1)=aq (dq c.s c.m N p) i+dq c.s c.m N p i:=O;by_cases hd:0<je c.s N p i-c.s i
  .rw[gA,if_pos hd]at hP;rw[<-hP]at e3;have vP:Vq (ofQ (dq c.s c.m N p i)) (dq c.s c.m N p i) (n+1+30):=Vq.ofQ (h:=Cq hc hph i);have e4:=wr (ofQ (aq (dq c.s c.m N p) i)) (ofQ (dq c.s c.m N p i)) (hx:=vs i) (hy:=vP) (by have:=hB i J;omega) J;rw[<-hS]at e4;have hgt:=hg.2 hd;generalize hSN:ofQ (aq (dq c.s c.m N p) (i+1))=S1 at *
   generalize ofQ (aq (dq c.s c.m N p) i)=S0,ofQ (dq c.s c.m N p i)=P0,sgn (je c.s N p i-c.s i)=sg,ofQ (je c.s N p i-c.s i)=D0,Mb c y p N i=T0,ofQ ((c.S.getD i 0:Int):Rat)=W0 at *
   generalize c.S.getD i 0=x0,c.M.getD i RR.zero=m0 at *
   refine dH ?_;refine ao (e_ 8) ?_;refine a_ [(8,8),(9,8)] aH aH ?_;refine aN hx ?_;refine G hw ?_;refine G e1 ?_;refine ax e2 ?_;refine D ?_ ?_<;>intro h
   .clear h;refine cX 9 [54,55,56,57,58,59,60,61,62] ?_;refine aN hmx ?_;refine G e3 ?_;refine G e4 ?_;refine H ?_;refine⟨i+1,hlt,J,O,O,O,O,congrArg I hnx,O,O,O,?_,bh⟩;show(_:Nat × Option Cont)=(1,some (Cont.mk 41 4 [eR (ofQ (aq (dq c.s c.m N p) (i+1)))] 2));rw[hSN];rfl
   .exact absurd hgt (bS h)
  .rw[gA,if_neg hd,Rat.mul_zero]at hP;rw[hP,jI]at hS;have hgt:¬0<sgn (je c.s N p i-c.s i):=fun h=>hd (hg.1 h);rw[<-hS];generalize hSN:ofQ (aq (dq c.s c.m N p) (i+1))=S0 at *
   generalize sgn (je c.s N p i-c.s i)=sg,ofQ (je c.s N p i-c.s i)=D0,Mb c y p N i=T0,ofQ ((c.S.getD i 0:Int):Rat)=W0 at *
   generalize c.S.getD i 0=x0 at *
   refine dH ?_;refine ao (e_ 8) ?_;refine a_ [(8,8),(9,8)] aH aH ?_;refine aN hx ?_;refine G hw ?_;refine G e1 ?_;refine ax e2 ?_;refine D ?_ ?_<;>intro h
   .exact absurd (bk h) hgt
   .clear h;refine H ?_;refine⟨i+1,hlt,J,O,O,O,O,congrArg I hnx,O,O,O,?_,bh⟩;show(_:Nat × Option Cont)=(1,some (Cont.mk 41 4 [eR (ofQ (aq (dq c.s c.m N p) (i+1)))] 2));rw[hSN];rfl
 .have hie:i=N:=by have:=bS h;rw[hSm]at this;omega
  clear h;subst hie;exact cA
theorem QJ {d:Nat}{t:ST}{k:Nat}(hk:k<t.H0.length){x:Int}(hx:t.H0[k]?=some x):(qo d t)[k]?=some (Dw d t.w x):=by
 rw[qo,fN (by simpa using hk),bw,hx];rfl
theorem QI {d:Nat}{t:ST}{k:Nat}(hk:k=t.H0.length):(qo d t)[k]?=some (ofQ 0):=by
 rw[qo,fc (by simp[hk])];simp[hk]
theorem EL (d:Nat)(t:ST):(qo d t).length=t.H0.length+1:=by simp[qo]
def zB:List PV:=I 0::(zN++[.nil])
def Bm:BR:=⟨0,RR.zero,[]⟩
theorem WeakL.app {a b c d:List PV}(h1:WeakL a b)(h2:WeakL c d):WeakL (a++c) (b++d):=by
 induction h1 with
 |nil=>exact h2
 |cons h _ ih=>exact .cons h ih
theorem Ox:WeakL zB (eB Bm) := .cons (.rfl _) (fu.app (.cons .nil .nil))
theorem Bp (b:BR)(hb:b.Lim):aU 115 [.agg (eB b)] (.tup [.agg (eB (if dP b=0 then b else Bm)),I (dP b)]):=by
 have h1:=ia b hb;by_cases h0:dP b=0
 .rw[if_pos h0,h0];rw[h0]at h1;refine aD Proofs.Tryz.func115 ?_;refine ax h1 ?_;exact cA
 .rw[if_neg h0]
  suffices hz:aU 115 [.agg (eB b)] (.tup [.agg zB,I (dP b)]) from hz.weak (WeakL.refl _) (WeakL.tup (.cons Ox.agg (WeakL.refl _)))
  generalize dP b=e at *
  refine aD Proofs.Tryz.func115 ?_;refine ax h1 ?_;refine D ?_ ?_<;>intro h
  .clear h;exact cA
  .simp at h;exact absurd h h0
def qX (s:SHP):Rat:=(sX (s.light::s.it):Rat)/(sM (s.light::s.it):Rat)
def wB (s:SHP)(l:List SR):BR:=⟨sM (s.light::s.it),ofQ (qX s),l⟩
def pB (s:SHP)(l:List SR):BR:=⟨sM (s.light::s.it),ofQ (qX s),l.map xA⟩
theorem nM (p:Rat):qn (ofQ p)=ofQ p:=by rw[qn,ofQ_val]
theorem Rl (s:SHP)(l:List SR):Ss id (wB s l)=pB s l:=by
 rw[Ss,pB];show(⟨sM (s.light::s.it),qn (ofQ (qX s)),l.map fun x=>id (xA x)⟩:BR)=_;rw[nM];rfl
theorem B8 {s:SHP}(h:ShipOk s):1<=sM (s.light::s.it)/\sM (s.light::s.it)<=61000000000/\hq (qX s) 4:=by
 obtain⟨⟨a1,a2⟩,-,⟨a3,a4⟩,-⟩:=kj h.ld;have hn:((s.light::s.it).length:Int)<=61:=by have:=h.n;simp;omega
 have h1:=h.m;refine⟨h1,J,lD J ?_ ?_⟩
 .rw[show 65536^4=18446744073709551616 by decide];omega
 .rw[show 65536^4=18446744073709551616 by decide];omega
theorem Do (s:SHP)(hs:s.Len)(he:f7 s=0)(l:List SR)(hb:(wB s l).Lim)(hp:(pB s l).Lim)(h12:l.length<=1000)(hM:∀x∈l,x.k.M.length<=1000):aU 53 [.agg (fx s),.sl (l.map eS)] (.tup [.agg (eB (if dP (pB s l)=0 then pB s l else Bm)),I (dP (pB s l))]):=by
 have h1:=HG s hs he;have h2:=DM (wB s l) hb h12 hM 117 [] id (fun x _=>M9 (xA x));rw[Rl]at h2;have h3:=Bp (pB s l) hp;have ew:eB (wB s l)=I (sM (s.light::s.it))::(eR (ofQ (qX s))++[.sl (l.map eS)]):=O;rw[ew]at h2;rw[xL,show(sX (s.light::s.it):Rat)/(sM (s.light::s.it):Rat)=qX s from O]at h1;generalize ofQ ((sZ (s.light::s.it):Rat)/(sM (s.light::s.it):Rat))=QZ,dP (pB s l)=e at *
 generalize hX:(if e=0 then pB s l else Bm)=X at *
 generalize pB s l=c,ofQ (qX s)=QX,sM (s.light::s.it)=m,sF (s.light::s.it)=f at *
 clear hb hp;refine aD Proofs.Tryz.func53 ?_;refine G h1 ?_;refine G h2 ?_;refine G h3 ?_;exact cA
structure BKR where
 x:Int
 z:Int
 hf:Int
 ht:Int
 wd:Int
 st:RR
 lim:Int
 side:Bool
structure ZNR where
 nm:IV
 a:Int
 b:Int
 h:Int
structure DKR where
 s:SHP
 d:Int
 bl:List BKR
 zn:List ZNR
 gm:Int
 oh:Int
def eBk (b:BKR):List PV:=[I b.x,I b.z,I b.hf,I b.ht,I b.wd]++eR b.st++[I b.lim,.bool b.side]
def lB (z:ZNR):List PV:=[.str z.nm,I z.a,I z.b,I z.h]
def fv (d:DKR):List PV:=fx d.s++[I d.d,.sl (d.bl.map eBk),.sl (d.zn.map lB),I d.gm,I d.oh]
structure DKR.Len (d:DKR):Prop where
 s:d.s.Len
 bl:d.bl.length<=9223372036854775807
 zn:d.zn.length<=9223372036854775807
def tK (l:List ZNR)(i:Nat)(z:ZNR):Int:=if dT z.nm=true then(if (l.take i).any (fun y=>decide (y.nm=z.nm))=true then 5 else if (aK z.a (-1000000) 1000000&&aK z.b (-1000000) 1000000&&decide (z.a<=z.b)&&aK z.h 0 100000)=true then 0 else 2) else 4
def jd (l:List ZNR):Int:=if 20<l.length then 8 else jM l (tK l)
def lW (L:List Int)(z:Int):List Int->Nat->Option Int
 |[],_=>none
 |h::H0,k=>if z<h then some (L.getD k 0) else lW L z H0 (k+1)
def tC (x:Int)(t:ST):Bool:=decide (2*t.x-t.w<=2*x)&&decide (2*x<2*t.x+t.w)
def gl (x z:Int):List ST->Option Int
 |[]=>none
 |t::l=>if tC x t=true then(match lW t.L z t.H0 0 with
  |some n=>some n
  |none=>gl x z l) else gl x z l
def Kr (b:BKR):Bool:=aK b.x (-1000000) 1000000&&aK b.hf 1 10000&&aK b.ht 0 100000&&aK b.wd 1 20000&&aK b.lim 0 1000000000&&decide (0<b.st.val)
def qe (b:BKR):Bool:=Kr b&&(if b.side then aK b.z 1 100000&&decide (b.wd<=2*b.z) else decide (b.z=0))
def kS (b:BKR)(z:ZNR):Bool:=decide (b.x-b.hf<z.b)&&decide (z.a<b.x+b.hf)&&decide (2*b.z-b.wd<2*z.h)
def kT (a b:Int):Int:=if a-b<b-a then b-a else a-b
def lA (b c:BKR):Bool:=decide (kT b.x c.x<b.hf+c.hf)&&decide (2*kT b.z c.z<b.wd+c.wd)
def lu (st:List ST)(zn:List ZNR)(l:List BKR)(i:Nat)(b:BKR):Int :=
 if qe b=true then(if (gl b.x b.z st).isSome=true then(if zn.any (kS b)=true then 15 else if (l.take i).any (lA b)=true then 17 else 0) else 6) else 2
def u7 (st:List ST)(zn:List ZNR)(l:List BKR):Int:=if 40<l.length then 8 else jM l (lu st zn l)
def xB (d:DKR):Int :=
 if ng d.s d.d=0 then(if jd d.zn=0 then(if u7 d.s.st d.zn d.bl=0 then(if (aK d.gm (-100000) 100000&&aK d.oh 0 1000000)=true then 0 else 2) else u7 d.s.st d.zn d.bl) else jd d.zn) else ng d.s d.d
theorem vK {L:List Int}{z:Int}{H0:List Int}{k:Nat}{h:Int}(hx:H0[k]?=some h):lW L z (H0.drop k) k=if z<h then some (L.getD k 0) else lW L z (H0.drop (k+1)) (k+1):=by
 obtain⟨hl,rfl⟩:=cb hx;rw[jm hl,lW]
theorem xX {x z:Int}{l:List ST}{k:Nat}{t:ST}(hx:l[k]?=some t):gl x z (l.drop k)=if tC x t=true then(match lW t.L z t.H0 0 with
  |some n=>some n
  |none=>gl x z (l.drop (k+1))) else gl x z (l.drop (k+1)):=by
 obtain⟨hl,rfl⟩:=cb hx;rw[jm hl,gl]
def other (c:UInt8):Bool:=(decide (48<=(c.toNat:Int))&&decide ((c.toNat:Int)<=57))||decide ((c.toNat:Int)=45)
theorem dA (n lo hi:Int):aU 56 [I n,I lo,I hi] (.bool (!aK n lo hi)):=by
 refine aD Proofs.Tryz.func56 ?_;refine fi ?_ ?_<;>intro h
 .have h1:=bk h;refine H ?_;exact fH O O (by simp[aK];omega)
 .have h1:=bS h;refine H ?_;exact fH O O (by rw[aK,decide_eq_true (show lo<=n by omega),iX,<-decide_not];exact congrArg PV.bool (decide_eq_decide.2 J))
theorem dw (n lo hi:Int):aU 84 [I n,I lo,I hi] (.bool (aK n lo hi)):=by
 refine aD Proofs.Tryz.func84 ?_;refine fi ?_ ?_<;>intro h
 .refine H ?_;exact fH O O (by simp[aK,bk h])
 .refine H ?_;exact fH O O (by simp[aK,h])
theorem HS (l:IV):aU 200 [.str l] (.bool (dT l)):=by
 refine aD Proofs.Tryz.func200 ?_
 repeat' (first|refine iQ O ?_|refine fq O O (fun h=>?_) (fun h=>?_)|refine fp O O (fun h=>?_) (fun h=>?_)|refine fm O O (fun h=>?_) (fun h=>?_))
 .have h0:l=[]:=by simpa using h
  subst h0;exact kU
 have h1:1<=l.length:=by
  have h0:l≠[]:=by simpa using h
  have:=oy.2 h0;omega
 refine D ?_ ?_<;>intro h
 .have:=bk h;refine H ?_;exact fH O O (by simp[dT];omega)
 have h2:=bS h;refine H ?_;refine ai (ClearE l rW) (fun k=>[(0,.str l),(15,I l.length),(16,I k)]) (fun _=>[]) (fun k=>l.length-k) 0 .zero' ah ?_;intro k s hk;refine D ?_ ?_<;>intro h
 .have hlt:k<l.length:=by simpa using h
  obtain⟨x,hx⟩:=ay hlt;have hget:l.getD k 0=x:=by rw[cN,hx];rfl
  refine H ?_;refine lY O ⟨J,J⟩ ?_;have hn:((l.getD (Int.toNat (k:Int)) 0).toNat:Int)=x.toNat:=by rw[be,hget]
  rw[hn];have hkb:k<12:=J;clear h hn h1 h2;refine lY O trivial ?_
  ((repeat (first|refine bJ ?_ | refine eg ?_ | refine dO ?_ | refine dH ?_));refine bZ ?_)
  refine pZ 100 [(0,.str l),(3,I k),(4,.int .u8 x.toNat),(5,.bool (nG x)),(15,I l.length),(16,I k)] [] ?_ ?_
  .repeat' (first|refine iQ O ?_|refine fq O O (fun h=>?_) (fun h=>?_)|refine fp O O (fun h=>?_) (fun h=>?_)|refine fm O O (fun h=>?_) (fun h=>?_))
   all_goals exact⟨O,O,O,(congrArg PV.bool (by simp_all [nG]<;>omega)),O,O,bh⟩
  intro s
  ((repeat (first|refine bJ ?_ | refine eg ?_ | refine dO ?_ | refine dH ?_));refine bZ ?_)
  refine pZ 101 [(0,.str l),(3,I k),(5,.bool (nG x)),(6,.bool (other x)),(15,I l.length),(16,I k)] [] ?_ ?_
  .repeat' (first|refine iQ O ?_|refine fq O O (fun h=>?_) (fun h=>?_)|refine fp O O (fun h=>?_) (fun h=>?_)|refine fm O O (fun h=>?_) (fun h=>?_))
   all_goals exact⟨O,O,O,(congrArg PV.bool (by simp_all [other]<;>omega)),O,O,bh⟩
  intro s
  repeat' (first|refine iQ O ?_|refine fq O O (fun h=>?_) (fun h=>?_)|refine fp O O (fun h=>?_) (fun h=>?_)|refine fm O O (fun h=>?_) (fun h=>?_))
  all_goals try (refine aV O (fun hc=>?_) (fun hc=>?_))
  all_goals repeat refine iQ O ?_
  all_goals first
   |(
    refine fH O O ?_;have hb:rW k x=1:=by simp_all [rW,DE,other]<;>omega
    have:=hk.found hx hb J
    simp[dT,this])
   |(
    refine⟨k+1,hk.succ hx (by simp_all [rW,DE,other]<;>omega),J,O,O,?_,bh⟩
    exact c9 J J)
 .refine H ?_;exact fH O O (by simp only[dT,hk.none (by simpa using h)];simp;omega)
theorem lP (z:Int)(h:i64 z):aU 58 [I z] (.agg (eR (ofQ (z:Rat)))):=by
 have ho:=sj z h.1 h.2;have hw:=oS (di z) (by have:=kG (z:=z) (by obtain⟨h1,h2⟩:=h;omega);omega);rw[c_]at hw;generalize ofQ (z:Rat)=X,di z=Z at *
 refine aD Proofs.Tryz.func58 ?_;refine G ho ?_;refine G hw ?_;exact cA
theorem CZ (x:RR){p:Rat}{n:Nat}[hx:Vq x p n](hn:n<=8000000):aU 127 [.agg (eR x)] (I (sgn p)):=by
 have hc:=nf x RR.zero hn Y;rw[mA,uv,jI]at hc;have hc2:=hc.weak (.cons (.rfl _) (.cons fu.agg .nil)) (.rfl _);generalize sgn p=g at *
 refine aD Proofs.Tryz.func127 ?_;refine ax hc2 ?_;exact cB
def vS (p:ZNR->Bool):List ZNR->Nat->Int
 |[],_ => -1
 |d::l,i=>if p d=true then(i:Int) else vS p l (i+1)
theorem BP (p:ZNR->Bool):∀(l:List ZNR) (i:Nat),decide (0<=vS p l i)=l.any p
 |[],i=>rfl
 |d::l,i=>by
  rw[vS,List.any_cons];cases h:p d
  .rw[if_neg Y,BP p l (i+1),k_]
  .rw[if_pos O,uu,decide_eq_true];omega
theorem Hx (p:ZNR->Bool){l:List ZNR}{i:Nat}{x:ZNR}(h:l[i]?=some x):vS p (l.drop i) i=if p x=true then(i:Int) else vS p (l.drop (i+1)) (i+1):=by
 obtain⟨hl,rfl⟩:=cb h;rw[jm hl,vS]
theorem IU (y z:ZNR):aU 202 [.agg (lB y),.dref (lB z) 0] (.bool (decide (y.nm=z.nm))):=by
 refine aD Proofs.Tryz.func202 ?_;exact kU
theorem Fb (T:List ZNR)(hT:T.length<=1000)(z:ZNR):aU 269 [.sl (T.map lB),.clo 202 [.dref (lB z) 0]] (I (vS (fun y=>decide (y.nm=z.nm)) T 0)):=by
 have hml:(T.map lB).length=T.length:=ap;generalize hp:(fun y:ZNR=>decide (y.nm=z.nm))=p;have hg:∀d:ZNR,aU 202 [.agg (lB d),.dref (lB z) 0] (.bool (p d)):=fun d=>by rw[<-hp];exact IU d z
 clear hp;generalize hF:vS p T 0=F;refine aD Proofs.Tryz.func269 ?_;refine H ?_;refine ai (fun i:Nat=>i<=T.length/\vS p (T.drop i) i=F) (fun i=>[(0,.sl (T.map lB)),(1,.clo 202 [.dref (lB z) 0]),(7,I T.length),(8,I (i:Nat))])
  (fun _=>[]) (fun i=>T.length-i) 0 ⟨aP _,by rw[fO];exact hF⟩ ⟨O,O,by rw[<-hml];rfl,O,bh⟩ ?_
 intro i s ⟨hi,hall⟩;refine D ?_ ?_<;>intro h
 .have hlt:i<T.length:=cw h;clear h;obtain⟨x,hx⟩:=ay hlt;have hgx:=hg x;have hw:=dN i;rw[Hx p hx]at hall;cases hp:p x with
  |true =>
   rw[hp]at hgx;rw[if_pos hp]at hall;refine aN hx ?_;refine ax hgx ?_;refine H ?_;exact o9 O O (by rw[<-hall])
  |false =>
   rw[hp]at hgx;rw[if_neg (by rw[hp];decide)]at hall;refine aN hx ?_;refine ax hgx ?_;refine H ?_;exact⟨i+1,⟨J,hall⟩,J,O,O,O,congrArg I hw,bh⟩
 .have hie:i=T.length:=co h;clear h;rw[hie,gX,vS]at hall;rw[<-hall];exact cB
theorem IQ (T:List ZNR)(hT:T.length<=1000)(z:ZNR):aU 201 [.sl (T.map lB),.clo 202 [.dref (lB z) 0]] (.bool (T.any fun y=>decide (y.nm=z.nm))):=by
 have h1:=Fb T hT z;rw[<-BP (fun y=>decide (y.nm=z.nm)) T 0];generalize vS (fun y=>decide (y.nm=z.nm)) T 0=F at *
 refine aD Proofs.Tryz.func201 ?_;refine ax h1 ?_;exact kU
theorem IT (l:List ZNR)(hl:l.length<=9223372036854775807):aU 123 [.sl (l.map lB)] (I (jd l)):=by
 have hml:(l.map lB).length=l.length:=ap;generalize hf:jd l=E;rw[jd]at hf;refine aD Proofs.Tryz.func123 ?_;refine H ?_;rw[hml];refine aV O ?_ ?_<;>intro h
 .rw[if_pos (by have:=bk h;omega)]at hf;subst hf;exact cB
 have h20:¬20<l.length:=co h;clear h;rw[if_neg h20]at hf;refine H ?_;rw[hml];refine ai (ClearE l (tK l)) (fun k=>[(0,.sl (l.map lB)),(8,.sl (l.map lB)),(9,I l.length),(10,I (k:Nat))]) (fun _=>[]) (fun k=>l.length-k) 0 .zero' ah ?_;intro k s hk;have hkl:=hk.1;refine D ?_ ?_<;>intro h
 .have hlt:k<l.length:=cw h;clear h;obtain⟨z,hx⟩:=ay hlt;have n0:=HS z.nm;have c0:=IQ (l.take k) (by rw[bc];omega) z;have o1:=dA z.a (-1000000) 1000000;have o2:=dA z.b (-1000000) 1000000;have o3:=dA z.h 0 100000;have hw:=dN k;have hfl:=fun e (h:tK l k z=e) (he:e≠0)=>hk.found hx h he;have hsu:=fun(h:tK l k z=0)=>hk.succ hx h;rw[tK]at hfl hsu;generalize dT z.nm=b0 at *
  generalize hA:(l.take k).any (fun y=>decide (y.nm=z.nm))=b1 at *
  generalize aK z.a (-1000000) 1000000=b2,aK z.b (-1000000) 1000000=b3,aK z.h 0 100000=b4 at *
  clear hA hk;refine aN hx ?_;refine ax n0 ?_;cases b0
  .have:=hfl 4 (by rfl) Y;rw[hf]at this;subst this;exact cB
  refine cV 8 ?_;refine ao (Ghost.data (k:=4) (t:=4) (row:=lB z) O O O O) ?_;refine H ?_;refine ci O O (sy (n:=((k:Nat):Int)) O O O O O J J (fun _=>rfl)) ?_;rw[be];refine ax c0 ?_;cases b1
  rotate_left
  .have:=hfl 5 (by rfl) Y;rw[hf]at this;subst this;exact cB
  refine ax o1 ?_;cases b2
  .have:=hfl 2 (by rfl) Y;rw[hf]at this;subst this;exact cB
  refine ax o2 ?_;cases b3
  .have:=hfl 2 (by rfl) Y;rw[hf]at this;subst this;exact cB
  by_cases hab:z.a<=z.b
  rotate_left
  .have:=hfl 2 (by simp[hab]) Y;rw[hf]at this;subst this;refine fi ?_ ?_<;>intro h
   rotate_left
   .exact absurd (bS h) J
   clear h;exact cB
  refine fi ?_ ?_<;>intro h
  .exact absurd (bk h) J
  clear h;refine ax o3 ?_;cases b4
  .have:=hfl 2 ap Y;rw[hf]at this;subst this;exact cB
  refine H ?_;exact⟨k+1,hsu (by simp[hab]),J,O,O,O,congrArg I hw,bh⟩
 .have hge:¬k<l.length:=co h;clear h;rw[hk.none hge]at hf;subst hf;exact cB
theorem pr (s:SHP)(x z:Int)(hx : -1000000<=x/\x<=1000000)(hst:∀t∈s.st,StOk t)(hn:s.st.length<=40):aU 204 [.agg (fx s),I x,I z] (.tup [I ((gl x z s.st).getD 0),.bool (gl x z s.st).isSome]):=by
 have hml:(s.st.map eT).length=s.st.length:=ap;have q1:=gp (2*x);generalize hR:gl x z s.st=R;obtain⟨nm,len,st,light,it⟩:=s;simp only at *
 refine aD Proofs.Tryz.func204 ?_;refine H ?_;rw[hml];refine ai (fun i:Nat=>i<=st.length/\gl x z (st.drop i)=R) (fun i=>[(1,I x),(2,I z),(3,.ptr 3 1 0 0),(13,.sl (st.map eT)),(14,I st.length),(15,I (i:Nat))]) (fun _=>[(3,1,⟨27,9,[fx ⟨nm,len,st,light,it⟩],2⟩)]) (fun i=>st.length-i) 0 ⟨aP _,by rw[fO];exact hR⟩ ah ?_;rintro i s ⟨hi,hall⟩;refine D ?_ ?_<;>intro h
 .have hlt:i<st.length:=cw h;clear h;obtain⟨t,ht⟩:=ay hlt;have ok:=hst t (bC ht);obtain⟨⟨a1,a2⟩,⟨a3,a4⟩,⟨-,aL⟩,hLH,-,-,-⟩:=ok;rw[xX ht]at hall;have q2:=gp (2*t.x);have q3:=gp (2*t.x-t.w);have q4:=gp (2*t.x+t.w);have hw:=dN i;have hmh:(t.H0.map eN).length=t.H0.length:=ap;refine aN ht ?_;refine H ?_;rw[q1];refine H ?_;rw[q2];refine H ?_;rw[q3];refine LF O O O ?_ ?_<;>intro h
  .have d1:=bk h;clear h;rw[if_neg (by rw[tC,decide_eq_false J,fg];decide)]at hall;refine H ?_;exact⟨i+1,⟨hlt,hall⟩,J,O,O,O,O,O,congrArg I hw,O,bh⟩
  have d1:=bS h;clear h;refine H ?_;rw[q1];refine H ?_;rw[q2];refine H ?_;rw[q4];refine aV O ?_ ?_<;>intro h
  .have d2:=bk h;clear h;rw[if_neg (by rw[tC,decide_eq_false (show ¬2*x<2*t.x+t.w by omega),iV];decide)]at hall;refine H ?_;exact⟨i+1,⟨hlt,hall⟩,J,O,O,O,O,O,congrArg I hw,O,bh⟩
  have d2:=bS h;clear h;rw[if_pos (by rw[tC,decide_eq_true J,decide_eq_true J];rfl)]at hall;refine H ?_;rw[hmh];refine aQ [(1,I x),(2,I z),(3,.ptr 3 1 0 0),(9,.ptr 9 ((s.own 9).1+1) 0 0),(13,.sl (st.map eT)),(14,I st.length),(15,I (i:Nat)),(40,.sl (t.H0.map eN)),(41,I t.H0.length),(42,I ((0:Nat):Int))] [(3,1,⟨27,9,[fx ⟨nm,len,st,light,it⟩],2⟩),(9,(s.own 9).1+1,⟨115,4,[eT t],2⟩)] ah ?_;generalize (s.own 9).1+1=g9;intro s1;refine ai (fun k:Nat=>k<=t.H0.length/\(match lW t.L z (t.H0.drop k) k with|some n=>some n|none=>gl x z (st.drop (i+1)))=R) (fun k=>[(1,I x),(2,I z),(3,.ptr 3 1 0 0),(9,.ptr 9 g9 0 0),(13,.sl (st.map eT)),(14,I st.length),(15,I (i:Nat)),(40,.sl (t.H0.map eN)),(41,I t.H0.length),(42,I (k:Nat))]) (fun _=>[(3,1,⟨27,9,[fx ⟨nm,len,st,light,it⟩],2⟩),(9,g9,⟨115,4,[eT t],2⟩)]) (fun k=>t.H0.length-k) 0 ⟨aP _,by rw[fO];exact hall⟩ ⟨rfl,rfl,rfl,rfl,rfl,rfl,rfl,rfl,rfl,rfl,rfl,rfl,bh⟩ ?_;clear hall;rintro k s2 ⟨hk,hall⟩;refine D ?_ ?_<;>intro h
  .have hlk:k<t.H0.length:=cw h;clear h;obtain⟨y,hy⟩:=ay hlk;have hlL:k<t.L.length:=J;obtain⟨n,hn⟩:=ay hlL;have hgd:t.L.getD k 0=n:=by rw[cN,hn];rfl
   have hwk:=dN k;rw[vK hy,hgd]at hall;refine aN hy ?_;refine D ?_ ?_<;>intro h
   .have d3:z<y:=bk h;clear h;rw[if_pos d3]at hall;subst hall;refine aN hn ?_;exact cA
   .have d3:¬z<y:=bS h;clear h;rw[if_neg d3]at hall;refine H ?_;exact⟨k+1,⟨hlk,hall⟩,J,O,O,O,O,O,O,O,O,O,congrArg I hwk,ah⟩
  .have hke:k=t.H0.length:=co h;clear h;subst hke;rw[gX,lW]at hall;refine H ?_;exact⟨i+1,⟨hlt,hall⟩,J,O,O,O,O,O,congrArg I hw,O,bh⟩
 .have hge:i=st.length:=co h;clear h;subst hge;rw[gX,gl]at hall;subst hall;exact cA
theorem By (a b:Int)(h1 : -2000000<=a-b)(h2:a-b<=2000000):aU 205 [I a,I b] (I (kT a b)):=by
 have q1:=gp (a-b);have q2:=gp (b-a);refine aD Proofs.Tryz.func205 ?_;refine H ?_;rw[q1,q2];exact o9 O O O
theorem Er (b:BKR)(hs:b.st.sz 12):aU 203 [.agg (eBk b)] (.bool (qe b)):=by
 have o1:=dA b.x (-1000000) 1000000;have o2:=dA b.hf 1 10000;have o3:=dA b.ht 0 100000;have o4:=dA b.wd 1 20000;have o5:=dA b.lim 0 1000000000;have o6:=CZ b.st (hx:=hs.v) Y;have o7:=dA b.z 1 100000;have hsg:=nT b.st.val;generalize hf:qe b=E;rw[qe,Kr]at hf;have hp:decide (0<b.st.val)=!decide (sgn b.st.val<=0):=by
  by_cases h:sgn b.st.val<=0
  .rw[decide_eq_true h,decide_eq_false (fun g=>absurd g (Rat.not_lt.2 (hsg.1 h)))];rfl
  .rw[decide_eq_false h,decide_eq_true (Rat.not_le.1 fun g=>h (hsg.2 g))];rfl
 rw[hp]at hf;clear hp hsg;have hz:aK b.z 1 100000=true->1<=b.z/\b.z<=100000:=fun h=>iA h;obtain⟨x,z,hfw,ht,wd,st,lim,side⟩:=b;simp only at *
 generalize aK x (-1000000) 1000000=b1,aK hfw 1 10000=b2,aK ht 0 100000=b3,aK wd 1 20000=b4,aK lim 0 1000000000=b5,aK z 1 100000=b7,sgn st.val=sg at *
 refine aD Proofs.Tryz.func203 ?_;refine ax o1 ?_;cases b1
 .subst hf;exact kU
 refine ax o2 ?_;cases b2
 .subst hf;exact kU
 refine ax o3 ?_;cases b3
 .subst hf;exact kU
 refine ax o4 ?_;cases b4
 .subst hf;exact kU
 refine ax o5 ?_;cases b5
 .subst hf;exact kU
 refine ax o6 ?_;refine H ?_;by_cases h6:sg<=0
 .rw[decide_eq_true h6]at hf ⊢;subst hf;exact kU
 rw[decide_eq_false h6]at hf ⊢;refine H ?_;cases side
 .refine H ?_;exact fH O O (by rw[<-hf];rfl)
 .refine ax o7 ?_;cases b7
  .subst hf;exact kU
  have hz:=hz O;have q1:=gp (2*z);refine H ?_;rw[q1];exact fH O O (by rw[<-hf];rfl)
structure BkIn (b:BKR):Prop where
 x : -1000000<=b.x/\b.x<=1000000
 hf:1<=b.hf/\b.hf<=10000
 ht:0<=b.ht/\b.ht<=100000
 wd:1<=b.wd/\b.wd<=20000
 z:0<=b.z/\b.z<=100000
 lim:0<=b.lim/\b.lim<=1000000000
 st:0<b.st.val
theorem sI {b:BKR}(h:qe b=true):BkIn b:=by
 rw[qe,Kr]at h;simp only[cm,decide_eq_true_eq]at h;obtain⟨⟨⟨⟨⟨⟨h1,h2⟩,h3⟩,h4⟩,h5⟩,h6⟩,h7⟩:=h;refine⟨iA h1,iA h2,iA h3,iA h4,?_,iA h5,h6⟩;split at h7
 .simp only[cm]at h7;have:=iA h7.1;omega
 .have:=bk h7;omega
structure ZnIn (z:ZNR):Prop where
 a : -1000000<=z.a/\z.a<=1000000
 b : -1000000<=z.b/\z.b<=1000000
 h:0<=z.h/\z.h<=100000
theorem Q3 {l:List ZNR}{i:Nat}{z:ZNR}(h:tK l i z=0):ZnIn z:=by
 rw[tK]at h;split at h
 .split at h
  .omega
  .split at h
   .rename_i h2;simp only[cm]at h2;exact⟨iA h2.1.1.1,iA h2.1.1.2,iA h2.2⟩
   .omega
 .omega
theorem Du {l:List ZNR}(h:jd l=0):l.length<=20/\∀z∈l,ZnIn z:=by
 rw[jd]at h;split at h
 .omega
 .refine⟨J,fun z hz=>?_⟩;obtain⟨j,hj⟩:=i5.1 hz;exact Q3 (lU h j z hj)
theorem pq {α:Type}{p:α->Bool}{l:List α}{n:Nat}(h:∀(j:Nat) x,j<n->l[j]?=some x->p x=false):(l.take n).any p=false:=by
 rw[Aa];intro x hx;obtain⟨j,hj⟩:=i5.1 hx;have hjn:j<n:=by have:=(cb hj).1;rw[bc]at this;omega
 rw[tW hjn]at hj;rw[h j x hjn hj];decide
theorem xP {α:Type}{p:α->Bool}{l:List α}(h:∀(j:Nat) x,j<l.length->l[j]?=some x->p x=false):l.any p=false:=by
 have:=pq h;rwa [bI]at this
theorem uW {α:Type}{p:α->Bool}{l:List α}{k:Nat}{x:α}(hx:l[k]?=some x)(h:p x=true):l.any p=true:=List.any_eq_true.2 ⟨x,bC hx,h⟩
theorem uX {α:Type}{p:α->Bool}{l:List α}{n k:Nat}{x:α}(hk:k<n)(hx:l[k]?=some x)(h:p x=true):(l.take n).any p=true:=uW (k:=k) (by rw[tW hk];exact hx) h
theorem He (d:DKR)(hst:∀t∈d.s.st,StOk t)(h40:d.s.st.length<=40)(hz:d.zn.length<=20/\∀z∈d.zn,ZnIn z)(hb40:d.bl.length<=40)(i:Nat)(b:BKR)(hb:d.bl[i]?=some b)(hs:b.st.sz 12)(hpr:∀j c,j<i->d.bl[j]?=some c->BkIn c) :
  aU 124 [.agg (fv d),I (i:Nat)] (I (lu d.s.st d.zn d.bl i b)):=by
 have r1:=Er b hs;have hin:=fun h=>sI (b:=b) h;have hbt:=fun h:qe b=true=>pr d.s b.x b.z (sI h).x hst h40;have hmz:(d.zn.map lB).length=d.zn.length:=ap;generalize hf:lu d.s.st d.zn d.bl i b=E;rw[lu]at hf;obtain⟨s,den,bl,zn,gm,oh⟩:=d;simp only at *
 have hil:i<bl.length:=(cb hb).1;generalize qe b=b1 at *
 refine aD Proofs.Tryz.func124 ?_;refine aN hb ?_;refine ax r1 ?_;cases b1
 .subst hf;exact cB
 rw[if_pos O]at hf;have hin:=hin O;have hbt:=hbt O;obtain⟨⟨a1,a2⟩,⟨a3,a4⟩,-,⟨a5,a6⟩,⟨a7,a8⟩,-,-⟩:=hin;refine ax hbt ?_;cases hbo:gl b.x b.z s.st with
 |none =>
  rw[hbo,if_neg Y]at hf;subst hf;exact cB
 |some n =>
 rw[hbo,Option.isSome_some,if_pos O]at hf;have p1:=gp (b.x-b.hf);have p2:=gp (b.x+b.hf);have p3:=gp (2*b.z);have p4:=gp (2*b.z-b.wd);refine H ?_;rw[hmz];refine aQ [(1,I (i:Nat)),(2,.ptr 2 1 0 0),(5,.ptr 5 1 0 0),(33,.sl (zn.map lB)),(34,I zn.length),(35,I ((0:Nat):Int))] [(2,1,⟨56,14,[fv ⟨s,den,bl,zn,gm,oh⟩],2⟩),(5,1,⟨136,11,[eBk b],2⟩)] ah ?_;intro s0;refine ai (fun k:Nat=>k<=zn.length/\∀j u,j<k->zn[j]?=some u->kS b u=false) (fun k=>[(1,I (i:Nat)),(2,.ptr 2 1 0 0),(5,.ptr 5 1 0 0),(33,.sl (zn.map lB)),(34,I zn.length),(35,I (k:Nat))]) (fun _=>[(2,1,⟨56,14,[fv ⟨s,den,bl,zn,gm,oh⟩],2⟩),(5,1,⟨136,11,[eBk b],2⟩)]) (fun k=>zn.length-k) 0 ⟨aP _,fun j u hj=>absurd hj J⟩ ah ?_;rintro k s1 ⟨hk,hall⟩;refine D ?_ ?_<;>intro h
 .have hlt:k<zn.length:=cw h;clear h;obtain⟨z,hx⟩:=ay hlt;obtain⟨-,⟨z1,z2⟩,z3,z4⟩:=hz.2 z (bC hx);have p5:=gp (2*z.h);have hw:=dN k;have go:kS b z=false->∀j u,j<k+1->zn[j]?=some u->kS b u=false:=fun hb j u hj hu=>by
   rcases bG j k with g|g
   .exact hall j u g hu
   .rw[show j=k by omega,hx]at hu;cases hu;exact hb
  refine aN hx ?_;refine H ?_;rw[p1];refine LF O O O ?_ ?_<;>intro h
  rotate_left
  .have d1:=bS h;clear h;refine H ?_;exact⟨k+1,⟨hlt,go (by rw[kS,decide_eq_false d1,fg,fg])⟩,J,O,O,O,O,O,congrArg I hw,ah⟩
  have d1:=bk h;clear h;refine H ?_;rw[p2];refine fi ?_ ?_<;>intro h
  rotate_left
  .have d2:=bS h;clear h;refine H ?_;exact⟨k+1,⟨hlt,go (by rw[kS,decide_eq_false d2,iV,fg])⟩,J,O,O,O,O,O,congrArg I hw,ah⟩
  have d2:=bk h;clear h;refine H ?_;rw[p3];refine H ?_;rw[p4];refine H ?_;rw[p5];refine D ?_ ?_<;>intro h
  .have d3:2*b.z-b.wd<2*z.h:=bk h;clear h;rw[if_pos (uW hx (by rw[kS,decide_eq_true d1,decide_eq_true d2,decide_eq_true d3];rfl))]at hf;subst hf;exact cB
  .have d3:¬2*b.z-b.wd<2*z.h:=bS h;clear h;refine H ?_;exact⟨k+1,⟨hlt,go (by rw[kS,decide_eq_false d3,iV])⟩,J,O,O,O,O,O,congrArg I hw,ah⟩
 have hge:k=zn.length:=co h;clear h;subst hge;rw[xP hall,if_neg Y]at hf;clear hall;have hmt:((bl.take i).map eBk).length=i:=by rw[aF,bc];omega
 refine H ?_;refine ci O O (sy (l:=bl) (enc:=eBk) (n:=((i:Nat):Int)) O O O O O J J (fun _=>rfl)) ?_;rw[be];refine H ?_;rw[hmt];refine aQ [(2,.ptr 2 1 0 0),(5,.ptr 5 1 0 0),(73,.sl ((bl.take i).map eBk)),(74,I i),(75,I ((0:Nat):Int))] [(2,1,⟨56,14,[fv ⟨s,den,bl,zn,gm,oh⟩],2⟩),(5,1,⟨136,11,[eBk b],2⟩)] ah ?_;intro s2;refine ai (fun k:Nat=>k<=i/\∀j u,j<k->bl[j]?=some u->lA b u=false) (fun k=>[(2,.ptr 2 1 0 0),(5,.ptr 5 1 0 0),(73,.sl ((bl.take i).map eBk)),(74,I i),(75,I (k:Nat))]) (fun _=>[(2,1,⟨56,14,[fv ⟨s,den,bl,zn,gm,oh⟩],2⟩),(5,1,⟨136,11,[eBk b],2⟩)]) (fun k=>i-k) 0 ⟨aP _,fun j u hj=>absurd hj J⟩ ah ?_;rintro k s3 ⟨hk,hall⟩;refine D ?_ ?_<;>intro h
 .have hlt:k<i:=cw h;clear h;obtain⟨c,hx⟩:=ay (show k<bl.length by omega);have hxt:(bl.take i)[k]?=some c:=by rw[tW hlt];exact hx
  obtain⟨⟨c1,c2⟩,⟨c3,c4⟩,-,⟨c5,c6⟩,⟨c7,c8⟩,-,-⟩:=hpr k c hlt hx;have e1:=By b.x c.x J J;have e2:=By b.z c.z J J;have hdz : -2000000<=kT b.z c.z/\kT b.z c.z<=2000000:=by rw[kT];split<;>omega
  have hbc:lA b c=(decide (kT b.x c.x<b.hf+c.hf)&&decide (2*kT b.z c.z<b.wd+c.wd)):=O;have q1:=gp (b.hf+c.hf);have q2:=gp (2*kT b.z c.z);have q3:=gp (b.wd+c.wd);have hw:=dN k;have go:lA b c=false->∀j u,j<k+1->bl[j]?=some u->lA b u=false:=fun hb j u hj hu=>by
   rcases bG j k with g|g
   .exact hall j u g hu
   .rw[show j=k by omega,hx]at hu;cases hu;exact hb
  generalize kT b.x c.x=D1,kT b.z c.z=D2 at *
  refine aN hxt ?_;refine cX 25 [79,80,81,82,83,84,85,86,87,88,89,90,91,92,93,94,95,96,97,98,99,100,101,102,103] ?_;refine ax e1 ?_;refine H ?_;rw[q1];refine LF O O O ?_ ?_<;>intro h
  rotate_left
  .have d1:=bS h;clear h;refine H ?_;exact⟨k+1,⟨hlt,go (by rw[hbc,decide_eq_false d1,fg])⟩,J,O,O,O,O,congrArg I hw,ah⟩
  have d1:=bk h;clear h;refine ax e2 ?_;refine H ?_;rw[q2];refine H ?_;rw[q3];refine D ?_ ?_<;>intro h
  .have d2:2*D2<b.wd+c.wd:=bk h;clear h;rw[if_pos (uX hlt hx (by rw[hbc,decide_eq_true d1,decide_eq_true d2];rfl))]at hf;subst hf;exact cB
  .have d2:¬2*D2<b.wd+c.wd:=bS h;clear h;refine H ?_;exact⟨k+1,⟨hlt,go (by rw[hbc,decide_eq_false d2,iV])⟩,J,O,O,O,O,congrArg I hw,ah⟩
 have hge:k=i:=co h;clear h;subst hge;rw[pq hall,if_neg Y]at hf;subst hf;exact cB
theorem DH {st:List ST}{zn:List ZNR}{l:List BKR}{j:Nat}{c:BKR}(h:lu st zn l j c=0):BkIn c:=by
 rw[lu]at h;split at h
 .rename_i h1;exact sI h1
 .omega
structure DKR.Ok (d:DKR):Prop where
 len:d.Len
 st:∀b∈d.bl,b.st.sz 12
theorem AW {s:SHP}(h:f7 s=0):(∀t∈s.st,StOk t)/\s.st.length<=40:=by
 have ok:=lk h;refine⟨fun t ht=>?_,ok.len⟩;obtain⟨i,hi⟩:=i5.1 ht;exact QN (ok.st i t hi)
theorem pC (d:DKR)(hd:d.Ok):aU 55 [.agg (fv d)] (I (xB d)):=by
 have h1:=pA d.s hd.len.s;have h2:=dA d.d 900 1100;have h3:=IT d.zn hd.len.zn;have h4:=dA d.gm (-100000) 100000;have h5:=dA d.oh 0 1000000;have hmb:(d.bl.map eBk).length=d.bl.length:=ap;have hsz:=hd.st;have hlb:=hd.len.bl;generalize hf:xB d=E;rw[xB,ng]at hf;by_cases hE:f7 d.s=0
 rotate_left
 .rw[if_neg hE,if_neg hE]at hf;obtain⟨s,den,bl,zn,gm,oh⟩:=d;simp only at *
  generalize f7 s=e at *
  subst hf;refine aD Proofs.Tryz.func55 ?_;refine ax h1 ?_;refine D ?_ ?_<;>intro h
  .clear h;exact cB
  .simp at h;exact absurd h hE
 obtain⟨hst,h40⟩:=AW hE;rw[hE]at h1;rw[if_pos hE]at hf;have hbr:=fun i b hb hpr hz hb40=>He d hst h40 hz hb40 i b hb (hsz b (bC hb)) hpr;clear hE;obtain⟨s,den,bl,zn,gm,oh⟩:=d;simp only at *
 refine aD Proofs.Tryz.func55 ?_;refine ax h1 ?_;refine ax h2 ?_;cases hi:aK den 900 1100 with
 |false =>
  rw[hi]at hf;subst hf;exact cB
 |true =>
 rw[hi,if_pos O,if_pos O]at hf;refine ax h3 ?_;by_cases hz:jd zn=0
 rotate_left
 .rw[if_neg hz]at hf;generalize jd zn=e at *
  subst hf;refine D ?_ ?_<;>intro h
  .clear h;exact cB
  .simp at h;exact absurd h hz
 rw[if_pos hz,u7]at hf;rw[hz];have hzi:=Du hz;clear hz h3;refine H ?_;rw[hmb];refine aV O ?_ ?_<;>intro h
 .rw[if_pos (show 40<bl.length by have:=bk h;omega),if_neg Y]at hf;subst hf;exact cB
 have hb40:¬40<bl.length:=co h;clear h;rw[if_neg hb40]at hf;refine H ?_;rw[hmb];refine ai (ClearE bl (lu s.st zn bl)) (fun k=>[(1,.ptr 1 1 0 0),(28,I bl.length),(29,I (k:Nat))]) (fun _=>[(1,1,⟨56,14,[fv ⟨s,den,bl,zn,gm,oh⟩],2⟩)]) (fun k=>bl.length-k) 0 .zero' ah ?_;intro k s1 hk;have hkl:=hk.1;refine D ?_ ?_<;>intro h
 .have hlt:k<bl.length:=cw h;clear h;obtain⟨b,hx⟩:=ay hlt;have c1:=hbr k b hx (fun j c hj hc=>DH (hk.2 j c hj hc)) hzi J;have hw:=dN k;have hfl:=fun e (h:lu s.st zn bl k b=e) (he:e≠0)=>hk.found hx h he;have hsu:=fun(h:lu s.st zn bl k b=0)=>hk.succ hx h;generalize lu s.st zn bl k b=e at *
  refine ax c1 ?_;refine D ?_ ?_<;>intro h
  .have he:e≠0:=by simpa using h
   clear h;have:=hfl e O he;rw[this,if_neg he]at hf;subst hf;exact cB
  .have he:e=0:=by simpa using h
   clear h;refine H ?_;exact⟨k+1,hsu he,J,O,O,congrArg I hw,O,bh⟩
 have hge:¬k<bl.length:=co h;clear h;rw[hk.none hge,if_pos O]at hf;refine ax h4 ?_;cases h4b:aK gm (-100000) 100000 with
 |false =>
  rw[h4b]at hf;subst hf;exact cB
 |true =>
 rw[h4b]at hf;refine ax h5 ?_;cases h5b:aK oh 0 1000000;all_goals
  rw[h5b]at hf;subst hf;exact cB
theorem tq (s:SHP)(x z:Int)(hx : -1000000<=x/\x<=1000000)(hst:∀t∈s.st,StOk t)(hn:s.st.length<=40):aU 153 [.agg (fx s),I x,I z] (.tup [I ((gl x z s.st).getD 0),.bool (gl x z s.st).isSome]):=by
 have hml:(s.st.map eT).length=s.st.length:=ap;have q1:=gp (2*x);generalize hR:gl x z s.st=R;obtain⟨nm,len,st,light,it⟩:=s;simp only at *
 refine aD Proofs.Tryz.func153 ?_;refine H ?_;refine ai (fun i:Nat=>i<=st.length/\gl x z (st.drop i)=R) (fun i=>[(1,I x),(2,I z),(3,.ptr 3 1 0 0),(8,I (i:Nat))]) (fun _=>[(3,1,⟨27,9,[fx ⟨nm,len,st,light,it⟩],2⟩)]) (fun i=>st.length-i) 0 ⟨aP _,by rw[fO];exact hR⟩ ah ?_;rintro i s ⟨hi,hall⟩;refine H ?_;rw[hml];refine aV O ?_ ?_<;>intro h
 .have hlt:i<st.length:=cw h;clear h;obtain⟨t,ht⟩:=ay hlt;have ok:=hst t (bC ht);obtain⟨⟨a1,a2⟩,⟨a3,a4⟩,⟨-,aL⟩,hLH,-,-,-⟩:=ok;rw[xX ht]at hall;have q2:=gp (2*t.x);have q3:=gp (2*t.x-t.w);have q4:=gp (2*t.x+t.w);have hw:=dN i;have hmh:(t.H0.map eN).length=t.H0.length:=ap;refine aN ht ?_;refine H ?_;rw[q1];refine H ?_;rw[q2];refine H ?_;rw[q3];refine LF O O O ?_ ?_<;>intro h
  .have d1:=bk h;clear h;rw[if_neg (by rw[tC,decide_eq_false J,fg];decide)]at hall;refine H ?_;exact⟨i+1,⟨hlt,hall⟩,J,O,O,O,congrArg I hw,O,bh⟩
  have d1:=bS h;clear h;refine H ?_;rw[q1];refine H ?_;rw[q2];refine H ?_;rw[q4];refine aV O ?_ ?_<;>intro h
  .have d2:=bk h;clear h;rw[if_neg (by rw[tC,decide_eq_false (show ¬2*x<2*t.x+t.w by omega),iV];decide)]at hall;refine H ?_;exact⟨i+1,⟨hlt,hall⟩,J,O,O,O,congrArg I hw,O,bh⟩
  have d2:=bS h;clear h;rw[if_pos (by rw[tC,decide_eq_true J,decide_eq_true J];rfl)]at hall;refine H ?_;refine aQ [(1,I x),(2,I z),(3,.ptr 3 1 0 0),(8,I (i:Nat)),(9,.ptr 9 ((s.own 9).1+1) 0 0),(10,I ((0:Nat):Int))] [(3,1,⟨27,9,[fx ⟨nm,len,st,light,it⟩],2⟩),(9,(s.own 9).1+1,⟨115,4,[eT t],2⟩)] ah ?_;generalize (s.own 9).1+1=g9;intro s1;refine ai (fun k:Nat=>k<=t.H0.length/\(match lW t.L z (t.H0.drop k) k with|some n=>some n|none=>gl x z (st.drop (i+1)))=R) (fun k=>[(1,I x),(2,I z),(3,.ptr 3 1 0 0),(8,I (i:Nat)),(9,.ptr 9 g9 0 0),(10,I (k:Nat))]) (fun _=>[(3,1,⟨27,9,[fx ⟨nm,len,st,light,it⟩],2⟩),(9,g9,⟨115,4,[eT t],2⟩)]) (fun k=>t.H0.length-k) 0 ⟨aP _,by rw[fO];exact hall⟩ ⟨rfl,rfl,rfl,rfl,rfl,rfl,rfl,rfl,bh⟩ ?_;clear hall;rintro k s2 ⟨hk,hall⟩;refine H ?_;rw[hmh];refine aV O ?_ ?_<;>intro h
  .have hlk:k<t.H0.length:=cw h;clear h;obtain⟨y,hy⟩:=ay hlk;have hlL:k<t.L.length:=J;obtain⟨n,hn⟩:=ay hlL;have hgd:t.L.getD k 0=n:=by rw[cN,hn];rfl
   have hwk:=dN k;rw[vK hy,hgd]at hall;refine aN hy ?_;refine D ?_ ?_<;>intro h
   .have d3:z<y:=bk h;clear h;rw[if_pos d3]at hall;subst hall;refine aN hn ?_;exact cA
   .have d3:¬z<y:=bS h;clear h;rw[if_neg d3]at hall;refine H ?_;exact⟨k+1,⟨hlk,hall⟩,J,O,O,O,O,O,congrArg I hwk,ah⟩
  .have hke:k=t.H0.length:=co h;clear h;subst hke;rw[gX,lW]at hall;refine H ?_;exact⟨i+1,⟨hlt,hall⟩,J,O,O,O,congrArg I hw,O,bh⟩
 .have hge:i=st.length:=co h;clear h;subst hge;rw[gX,gl]at hall;subst hall;exact cA
theorem yD (a b:Int)(h1 : -2000000<=a-b)(h2:a-b<=2000000):aU 154 [I a,I b] (I (kT a b)):=by
 have q1:=gp (a-b);have q2:=gp (b-a);refine aD Proofs.Tryz.func154 ?_;refine H ?_;rw[q1,q2];exact o9 O O O
theorem CP (b:BKR)(hs:b.st.sz 12):aU 152 [.agg (eBk b)] (I (if qe b=true then 0 else 2)):=by
 have o1:=dw b.x (-1000000) 1000000;have o2:=dw b.hf 1 10000;have o3:=dw b.ht 0 100000;have o4:=dw b.wd 1 20000;have o5:=dw b.lim 0 1000000000;have o6:=gD b.st (hx:=hs.v) Y;have o7:=dw b.z 1 100000;have hsg:=nT b.st.val;generalize hf:qe b=E;rw[qe,Kr]at hf;have hp:decide (0<b.st.val)=!decide (sgn b.st.val<=0):=by
  by_cases h:sgn b.st.val<=0
  .rw[decide_eq_true h,decide_eq_false (fun g=>absurd g (Rat.not_lt.2 (hsg.1 h)))];rfl
  .rw[decide_eq_false h,decide_eq_true (Rat.not_le.1 fun g=>h (hsg.2 g))];rfl
 rw[hp]at hf;clear hp hsg;have hz:aK b.z 1 100000=true->1<=b.z/\b.z<=100000:=fun h=>iA h;obtain⟨x,z,hfw,ht,wd,st,lim,side⟩:=b;simp only at *
 generalize aK x (-1000000) 1000000=b1,aK hfw 1 10000=b2,aK ht 0 100000=b3,aK wd 1 20000=b4,aK lim 0 1000000000=b5,aK z 1 100000=b7,sgn st.val=sg at *
 refine aD Proofs.Tryz.func152 ?_;refine ax o1 ?_;cases b1
 .subst hf;exact cB
 refine ax o2 ?_;cases b2
 .subst hf;exact cB
 refine ax o3 ?_;cases b3
 .subst hf;exact cB
 refine ax o4 ?_;cases b4
 .subst hf;exact cB
 refine ax o5 ?_;cases b5
 .subst hf;exact cB
 refine ax o6 ?_;refine H ?_;by_cases h6:sg<=0
 .rw[decide_eq_true h6]at hf ⊢;subst hf;exact cB
 rw[decide_eq_false h6]at hf ⊢;refine H ?_;cases side
 .by_cases h8:z=0
  .rw[show E=true by rw[<-hf];simp[h8]];subst h8;exact cB
  .rw[show E=false by rw[<-hf];simp[h8]];refine D ?_ ?_<;>intro h
   .clear h;exact cB
   .simp at h;exact absurd h h8
 .refine ax o7 ?_;cases b7
  .subst hf;exact cB
  have hz:=hz O;have q1:=gp (2*z);refine H ?_;rw[q1];by_cases h9:2*z<wd
  .rw[show E=false by rw[<-hf];simp;omega];rw[decide_eq_true h9];exact cB
  .rw[show E=true by rw[<-hf];simp;omega];rw[decide_eq_false h9];exact cB
theorem Eh (d:DKR)(hst:∀t∈d.s.st,StOk t)(h40:d.s.st.length<=40)(hz:d.zn.length<=20/\∀z∈d.zn,ZnIn z)(hb40:d.bl.length<=40)(i:Nat)(b:BKR)(hb:d.bl[i]?=some b)(hs:b.st.sz 12)(hpr:∀j c,j<i->d.bl[j]?=some c->BkIn c) :
  aU 85 [.agg (fv d),I (i:Nat)] (I (lu d.s.st d.zn d.bl i b)):=by
 have r1:=CP b hs;have hin:=fun h=>sI (b:=b) h;have hbt:=fun h:qe b=true=>tq d.s b.x b.z (sI h).x hst h40;have hmz:(d.zn.map lB).length=d.zn.length:=ap;generalize hf:lu d.s.st d.zn d.bl i b=E;rw[lu]at hf;obtain⟨s,den,bl,zn,gm,oh⟩:=d;simp only at *
 have hil:i<bl.length:=(cb hb).1;generalize qe b=b1 at *
 refine aD Proofs.Tryz.func85 ?_;refine aN hb ?_;refine ax r1 ?_;cases b1
 .subst hf;exact cB
 rw[if_pos O]at hf;have hin:=hin O;have hbt:=hbt O;obtain⟨⟨a1,a2⟩,⟨a3,a4⟩,-,⟨a5,a6⟩,⟨a7,a8⟩,-,-⟩:=hin;refine ax hbt ?_;cases hbo:gl b.x b.z s.st with
 |none =>
  rw[hbo,if_neg Y]at hf;subst hf;exact cB
 |some n =>
 rw[hbo,Option.isSome_some,if_pos O]at hf;have p1:=gp (b.x-b.hf);have p2:=gp (b.x+b.hf);have p3:=gp (2*b.z);have p4:=gp (2*b.z-b.wd);refine H ?_;refine aQ [(1,I (i:Nat)),(2,.ptr 2 1 0 0),(5,.ptr 5 1 0 0),(9,I ((0:Nat):Int))] [(2,1,⟨56,14,[fv ⟨s,den,bl,zn,gm,oh⟩],2⟩),(5,1,⟨136,11,[eBk b],2⟩)] ah ?_;intro s0;refine ai (fun k:Nat=>k<=zn.length/\∀j u,j<k->zn[j]?=some u->kS b u=false) (fun k=>[(1,I (i:Nat)),(2,.ptr 2 1 0 0),(5,.ptr 5 1 0 0),(9,I (k:Nat))]) (fun _=>[(2,1,⟨56,14,[fv ⟨s,den,bl,zn,gm,oh⟩],2⟩),(5,1,⟨136,11,[eBk b],2⟩)]) (fun k=>zn.length-k) 0 ⟨aP _,fun j u hj=>absurd hj J⟩ ah ?_;rintro k s1 ⟨hk,hall⟩;refine H ?_;rw[hmz];refine aV O ?_ ?_<;>intro h
 .have hlt:k<zn.length:=cw h;clear h;obtain⟨z,hx⟩:=ay hlt;obtain⟨-,⟨z1,z2⟩,z3,z4⟩:=hz.2 z (bC hx);have p5:=gp (2*z.h);have hw:=dN k;have go:kS b z=false->∀j u,j<k+1->zn[j]?=some u->kS b u=false:=fun hb j u hj hu=>by
   rcases bG j k with g|g
   .exact hall j u g hu
   .rw[show j=k by omega,hx]at hu;cases hu;exact hb
  refine aN hx ?_;refine H ?_;rw[p1];refine LF O O O ?_ ?_<;>intro h
  rotate_left
  .have d1:=bS h;clear h;refine H ?_;exact⟨k+1,⟨hlt,go (by rw[kS,decide_eq_false d1,fg,fg])⟩,J,O,O,O,congrArg I hw,ah⟩
  have d1:=bk h;clear h;refine H ?_;rw[p2];refine fi ?_ ?_<;>intro h
  rotate_left
  .have d2:=bS h;clear h;refine H ?_;exact⟨k+1,⟨hlt,go (by rw[kS,decide_eq_false d2,iV,fg])⟩,J,O,O,O,congrArg I hw,ah⟩
  have d2:=bk h;clear h;refine H ?_;rw[p3];refine H ?_;rw[p4];refine H ?_;rw[p5];refine D ?_ ?_<;>intro h
  .have d3:2*b.z-b.wd<2*z.h:=bk h;clear h;rw[if_pos (uW hx (by rw[kS,decide_eq_true d1,decide_eq_true d2,decide_eq_true d3];rfl))]at hf;subst hf;exact cB
  .have d3:¬2*b.z-b.wd<2*z.h:=bS h;clear h;refine H ?_;exact⟨k+1,⟨hlt,go (by rw[kS,decide_eq_false d3,iV])⟩,J,O,O,O,congrArg I hw,ah⟩
 have hge:k=zn.length:=co h;clear h;subst hge;rw[xP hall,if_neg Y]at hf;clear hall;refine H ?_;refine ai (fun k:Nat=>k<=i/\∀j u,j<k->bl[j]?=some u->lA b u=false) (fun k=>[(1,I (i:Nat)),(2,.ptr 2 1 0 0),(5,.ptr 5 1 0 0),(11,I (k:Nat))]) (fun _=>[(2,1,⟨56,14,[fv ⟨s,den,bl,zn,gm,oh⟩],2⟩),(5,1,⟨136,11,[eBk b],2⟩)]) (fun k=>i-k) 0 ⟨aP _,fun j u hj=>absurd hj J⟩ ah ?_;rintro k s3 ⟨hk,hall⟩;refine D ?_ ?_<;>intro h
 .have hlt:k<i:=cw h;clear h;obtain⟨c,hx⟩:=ay (show k<bl.length by omega);obtain⟨⟨c1,c2⟩,⟨c3,c4⟩,-,⟨c5,c6⟩,⟨c7,c8⟩,-,-⟩:=hpr k c hlt hx;have e1:=yD b.x c.x J J;have e2:=yD b.z c.z J J;have hdz : -2000000<=kT b.z c.z/\kT b.z c.z<=2000000:=by rw[kT];split<;>omega
  have hbc:lA b c=(decide (kT b.x c.x<b.hf+c.hf)&&decide (2*kT b.z c.z<b.wd+c.wd)):=O;have q1:=gp (b.hf+c.hf);have q2:=gp (2*kT b.z c.z);have q3:=gp (b.wd+c.wd);have hw:=dN k;have go:lA b c=false->∀j u,j<k+1->bl[j]?=some u->lA b u=false:=fun hb j u hj hu=>by
   rcases bG j k with g|g
   .exact hall j u g hu
   .rw[show j=k by omega,hx]at hu;cases hu;exact hb
  generalize kT b.x c.x=D1,kT b.z c.z=D2 at *
  refine aN hx ?_;refine cX 25 [87,88,89,90,91,92,93,94,95,96,97,98,99,100,101,102,103,104,105,106,107,108,109,110,111] ?_;refine ax e1 ?_;refine H ?_;rw[q1];refine LF O O O ?_ ?_<;>intro h
  rotate_left
  .have d1:=bS h;clear h;refine H ?_;exact⟨k+1,⟨hlt,go (by rw[hbc,decide_eq_false d1,fg])⟩,J,O,O,O,congrArg I hw,ah⟩
  have d1:=bk h;clear h;refine ax e2 ?_;refine H ?_;rw[q2];refine H ?_;rw[q3];refine D ?_ ?_<;>intro h
  .have d2:2*D2<b.wd+c.wd:=bk h;clear h;rw[if_pos (uX hlt hx (by rw[hbc,decide_eq_true d1,decide_eq_true d2];rfl))]at hf;subst hf;exact cB
  .have d2:¬2*D2<b.wd+c.wd:=bS h;clear h;refine H ?_;exact⟨k+1,⟨hlt,go (by rw[hbc,decide_eq_false d2,iV])⟩,J,O,O,O,congrArg I hw,ah⟩
 have hge:k=i:=co h;clear h;subst hge;rw[pq hall,if_neg Y]at hf;subst hf;exact cB
end Go.Pv
namespace Go.Pv
open Go.Proofs
def jK (st:List ST)(b:BKR):Int:=(gl b.x b.z st).getD 0
def jX (b:BKR):Rat:=if b.side=true then b.st.val*2 else b.st.val
def lw (st:List ST)(b:BKR):SR:=⟨b.x,ofQ ((b.ht-jK st b:Int):Rat),⟨[0],[ofQ (jX b)]⟩⟩
def df (st:List ST)(l:List BKR):List SR:=l.map (lw st)
theorem rX {st:List ST}{l:List BKR}{k:Nat}{b:BKR}(h:l[k]?=some b):df st (l.take (k+1))=df st (l.take k)++[lw st b]:=by
 rw[df,df,bR h,bj];rfl
def ri (q:Rat)(s:SR):SR:=⟨s.x,ofQ q,s.k⟩
def fJ (d:DKR):Nat:=d.d.toNat
def dC (d:DKR)(q:Rat):List SR:=df d.s.st d.bl++(eH (fJ d) d.s.st).map (ri q)
theorem BI {L:List Int}{z n:Int}:∀ {H0:List Int} {k:Nat},lW L z H0 k=some n->∃j,k<=j/\j<k+H0.length/\n=L.getD j 0
 |[],k,h=>by simp[lW]at h
 |a::H0,k,h=>by
  rw[lW]at h;split at h
  .exact⟨k,aY,ap,by simpa using h.symm⟩
  .obtain⟨j,h1,h2,h3⟩:=BI h;exact⟨j,J,by simp;omega,h3⟩
theorem y9 {x z n:Int}:∀ {l:List ST},(∀t∈l,StOk t)->gl x z l=some n->0<=n/\n<=100000
 |[],_,h=>by simp[gl]at h
 |t::l,hs,h=>by
  rw[gl]at h;have hl:=fun u hu=>hs u (ff _ hu);split at h
  .split at h
   .rename_i m hm;have ok:=hs t ez;obtain⟨j,h1,h2,h3⟩:=BI hm;have hj:j<t.L.length:=by have:=ok.h;omega
    rw[cN,bX hj]at h3;have:=ok.L _ (List.getElem_mem hj);simp only[bm]at h;simp at h3;omega
   .exact y9 hl h
  .exact y9 hl h
theorem oo {st:List ST}(hs:∀t∈st,StOk t)(b:BKR):0<=jK st b/\jK st b<=100000:=by
 rw[jK];cases h:gl b.x b.z st with
 |none=>exact⟨oE _,Y⟩
 |some n=>exact y9 hs h
end Go.Pv
