/- Texts of one hand, gathered: FcX, FcY, FcZ, FdA, FdB, FdC, FdD, FdE, FdF, FdG, FdH, FdI, FdK, FdL, FmK, FdN, FmL, FdT, FdO, FdP, FdQ, FdR, FmN, FdSn, FdUn, FdM, FsA, FsB, FsD, PvXw, FsE, FwA, FwB, FcLd, FwC, FwD, Shelg, FwE, FwF, FwG, PvFz, FuE, FwH, FsF, FwI, FuF, FwJ, DkA, DkC, DkE, DkF, DkG, DkH, DkD, DkJ, DkN, DkV, DkO, DkP, DkQ, RaA, FwKa, DkB, DkK, PvLc, DkL, DkM, DkR, DkS, DkTa, DkI, DkT, DkW, DlH, DkX, DlI, DkY, DkZ, DlC, DlB, DlA. -/
import Derived.Test.YtaeeehokaleakaaGreatBm3
import Derived.Shelf.Spec.SlicesGrow
import Derived.Test.YtaeeehokaleakaaGreatProg
set_option maxRecDepth 20000
set_option linter.unusedSectionVars false
set_option linter.unusedSimpArgs false
set_option linter.unusedVariables false
set_option linter.unnecessarySimpa false
set_option maxHeartbeats 2000000
namespace Go.Pv
attribute [local irreducible] PWP POps PQuiet PSem XThen XBlock RetPost InlPost
open Go.Proofs
theorem k9 {b:BR}(hb:b.Ok):(bd b).Ok:=by
 refine⟨fun i hi=>Ay (dD hb.chkL _ (bq hi)),?_⟩;have:=(u4 hb.chk).1;show(0:Rat)<(b.w:Rat);have h:(0:Int)<b.w:=J
 exact_mod_cast h
theorem HY {c:CR}(hc:c.Lim){p:Nat}(hp:p<=8):HQ (k8 c.s c.m p) 300:=by
 rw[k8];refine(bw (m:=31) p fun k _=>?_).mono J;have hb:=oF hc k;have hzb:Zb (c.S.getD k 0):=aL hb.1 hb.2;exact @HQ.mul _ _ 27 4 (qB hc k) HQ.int
theorem AU {b:BR}(hb:b.Ok)(p:Nat->Nat){i:Nat}(hi:i<b.l.length):HQ ((bd b).k p i) 13:=(rI _ (hb.lim.l.1 _ (bq hi)).k (p i)).hq
theorem ES {b:BR}(hb:b.Ok){i:Nat}(hi:i<b.l.length):HQ ((bd b).X i) 4:=by
 have hx:=(hb.lim.l.1 _ (bq hi)).x;have hx:Zb (b.l.getD i dS).x:=aL hx.1 hx.2;exact HQ.int
theorem B6 {b:BR}(hb:b.Ok)(p:Nat->Nat):HQ ((bd b).Kh p) 300:=(bw (m:=13) b.l.length fun i hi=>AU hb p hi).mono (by have:=hb.few.1;omega)
theorem B5 {b:BR}(hb:b.Ok)(p:Nat->Nat):HQ ((bd b).Kc p) 300:=(bw (m:=17) b.l.length fun i hi=>@HQ.mul _ _ 13 4 (AU hb p hi) (ES hb hi)).mono (by have:=hb.few.1;omega)
theorem GQ {b:BR}(hb:b.Ok)(p:Nat->Nat):HQ ((bd b).Kp p) 300:=(bw (m:=21) b.l.length fun i hi=>@HQ.mul _ _ 17 4 (@HQ.mul _ _ 13 4 (AU hb p hi) (ES hb hi)) (ES hb hi)).mono (by have:=hb.few.1;omega)
theorem C_ {b:BR}(hb:b.Ok){p:Nat->Nat}(hp:∀i,i<b.l.length->p i<=(bd b).n i){i:Nat}(hi:i<b.l.length):HQ ((bd b).k p i*(bd b).C i-(bd b).o p i) 327:=by
 have h8:=hb.few.2 _ (bq hi);have hpi:=hp i hi;have hc:HQ ((bd b).C i) 13:=(hb.lim.l.1 _ (bq hi)).c.v.hq;exact @HQ.sub _ _ 26 300 (@HQ.mul _ _ 13 13 (AU hb p hi) hc) (HY (hb.lim.l.1 _ (bq hi)).k (bz hpi h8))
theorem GP {b:BR}(hb:b.Ok){p:Nat->Nat}(hp:∀i,i<b.l.length->p i<=(bd b).n i):HQ ((bd b).Fo p) 4100:=(bw (m:=327) b.l.length fun i hi=>C_ hb hp hi).mono (by have:=hb.few.1;omega)
theorem IB {b:BR}(hb:b.Ok){p:Nat->Nat}(hp:∀i,i<b.l.length->p i<=(bd b).n i):HQ ((bd b).Go p) 4100:=(bw (m:=331) b.l.length fun i hi=>@HQ.mul _ _ 327 4 (C_ hb hp hi) (ES hb hi)).mono (by have:=hb.few.1;omega)
theorem yM {z X D0:Rat}(hd:D0≠0):z+(X-z*D0)/D0=X/D0:=by grind
theorem Fg {h c p z t F G0 w M:Rat}(hd:h*p-c*c≠0):z+(p*(w-(h*z+c*t+F))-c*(M-(c*z+p*t+G0)))/(h*p-c*c)=(p*(w-F)-c*(M-G0))/(h*p-c*c):=by
 rw[show p*(w-(h*z+c*t+F))-c*(M-(c*z+p*t+G0))=(p*(w-F)-c*(M-G0))-z*(h*p-c*c) by grind,yM hd]
theorem Fh {h c p z t F G0 w M:Rat}(hd:h*p-c*c≠0):t+(h*(M-(c*z+p*t+G0))-c*(w-(h*z+c*t+F)))/(h*p-c*c)=(h*(M-G0)-c*(w-F))/(h*p-c*c):=by
 rw[show h*(M-(c*z+p*t+G0))-c*(w-(h*z+c*t+F))=(h*(M-G0)-c*(w-F))-t*(h*p-c*c) by grind,yM hd]
theorem zz {b:BR}(hb:b.Ok){p:Nat->Nat}{z t:Rat}(hp:(bd b).Inc p z t){d:Rat × Rat}(h:Bd.newt ((bd b).Kh p) ((bd b).Kc p) ((bd b).Kp p) ((bd b).w-(bd b).F z t) (-((bd b).e z t))=some d):HQ (z+d.1) 20000/\HQ (t+d.2) 20000:=by
 have hpn:∀i,i<b.l.length->p i<=(bd b).n i:=fun i hi=>(hp i hi).1;have hw:Zb b.w:=aL hb.lim.w.1 hb.lim.w.2;have e1:=Bd.F_at (k9 hb) hp;have e2:=Bd.G_at (k9 hb) hp;rw[Bd.newt]at h;split at h
 .cases h
 .rename_i hd;cases h;have hf : -((bd b).e z t)=(bd b).w*(bd b).A-(bd b).G0 z t:=by rw[Bd.e];grind
  simp only;rw[hf,e1,e2,Fg hd,Fh hd];have kh:=B6 hb p;have kc:=B5 hb p;have kp:=GQ hb p;have fo:=GP hb hpn;have go:=IB hb hpn;have wq:HQ ((bd b).w) 4:=HQ.int;have wa:HQ ((bd b).w*(bd b).A) 17:=Am hb;have f1:=@HQ.sub _ _ 4 4100 wq fo;have g1:=@HQ.sub _ _ 17 4100 wa go;have dt:=@HQ.sub _ _ _ _ (@HQ.mul _ _ 300 300 kh kp) (@HQ.mul _ _ 300 300 kc kc);exact⟨(@HQ.div _ _ _ _ (@HQ.sub _ _ _ _ (@HQ.mul _ _ _ _ kp f1) (@HQ.mul _ _ _ _ kc g1)) dt).mono J,(@HQ.div _ _ _ _ (@HQ.sub _ _ _ _ (@HQ.mul _ _ _ _ kh g1) (@HQ.mul _ _ _ _ kc f1)) dt).mono J⟩
def GX (o:Option (Rat × Rat)):PV:=match o with
 |none => .tup [.agg (zN++zN),.bool false]
 |some x => .tup [.agg (eA ⟨ofQ x.1,ofQ x.2⟩),.bool true]
theorem Al {x:RR}{p:Rat}{n m:Nat}(h:Vq x p n)(hm:n<=m):Vq x p m:=⟨h.val,bz h.sz.1 hm,bz h.sz.2 hm⟩
theorem C5 {b:BR}(hb:b.Ok)(z t:Rat):(bd b).Inc ((bd b).pR z t) z t:=fun i hi=>(H4 (n:=(bd b).n i) (S:=(bd b).S i) (y:=(bd b).y z t i)).c
theorem G_ {b:BR}(hb:b.Ok)(z t:Rat):(bd b).Inc ((bd b).pL z t) z t:=fun i hi=>(x7 (n:=(bd b).n i) (S:=(bd b).S i) (y:=(bd b).y z t i)).c
def Jo (b:BR)(p:Nat->Nat):PV := .agg (eK (ofQ ((bd b).Kh p)) (ofQ ((bd b).Kc p)) (ofQ ((bd b).Kp p)))
theorem yw (b:BR)(hb:b.Ok)(a:AR){z t:Rat}{n m:Nat}[ha:Va a z t n m](hn:n+m<=60000):bb 263 [.sl (b.l.map eS),.clo 303 [.dref (eA a) 0]] (Jo b ((bd b).pR z t)) :=
 sD b.l hb.lim.l hb.few 303 (eA a) (fun s=>ofQ (bU s.k.m (rD s.k.s (yQ s z t) s.k.S.length))) ((bd b).k ((bd b).pR z t)) (fun s hs=>qM s (hb.lim.l.1 s hs) (dD hb.chkL s hs) a J)
  (fun i hi=>Al (Vq.ofQ (h:=AU hb ((bd b).pR z t) hi)) Y)
theorem yu (b:BR)(hb:b.Ok)(a:AR){z t:Rat}{n m:Nat}[ha:Va a z t n m](hn:n+m<=60000):bb 263 [.sl (b.l.map eS),.clo 305 [.dref (eA a) 0]] (Jo b ((bd b).pL z t)) :=
 sD b.l hb.lim.l hb.few 305 (eA a) (fun s=>A4 s.k (yQ s z t) s.k.S.length) ((bd b).k ((bd b).pL z t)) (fun s hs=>r5 s (hb.lim.l.1 s hs) (dD hb.chkL s hs) a J)
  (fun i hi=>Al (Dd (hb.lim.l.1 _ (bq hi)).k _ _) Y)
structure TryC (b:BR) (a:AR) (z t:Rat) (fo mo:RR) (p:Nat->Nat) (d:Option (Rat × Rat)):Prop where
 mv:bb 262 [Jo b p,.agg (eR fo),.agg (eR mo)] (qA d)
 af:∀x,d=some x->bb 265 [.agg (eA a),.agg (eA ⟨ofQ x.1,ofQ x.2⟩)] (.agg (eA ⟨ofQ (z+x.1),ofQ (t+x.2)⟩))
 ba:∀x,d=some x->bb 264 [.agg (eB b),.agg (eA ⟨ofQ (z+x.1),ofQ (t+x.2)⟩)] (.bool (decide ((bd b).Bal (z+x.1) (t+x.2))))
theorem Je (b:BR)(hb:b.Ok)(a:AR){z t:Rat}{n m:Nat}(ha:Va a z t n m)(hn:n+m<=50000){p:Nat->Nat}(hp:(bd b).Inc p z t) :
  TryC b a z t (ofQ ((bd b).w-(bd b).F z t)) (ofQ (-((bd b).e z t))) p (Bd.newt ((bd b).Kh p) ((bd b).Kc p) ((bd b).Kp p) ((bd b).w-(bd b).F z t) (-((bd b).e z t))):=by
 have hw:Zb b.w:=aL hb.lim.w.1 hb.lim.w.2;have wq:HQ ((bd b).w) 4:=HQ.int;have hF:HQ ((bd b).w-(bd b).F z t) (96*(n+m+62)+400):=(@HQ.sub _ _ 4 (96*((n+1)+(m+1)+60)+200) wq (Hs hb.lim.l hb.few ha.z.hq ha.t.hq)).mono J;have hE:HQ (-((bd b).e z t)) (96*(n+m+62)+400):=(@HQ.neg _ _ (HK hb ha.z.hq ha.t.hq)).mono J;have hd:∀x,Bd.newt ((bd b).Kh p) ((bd b).Kc p) ((bd b).Kp p) ((bd b).w-(bd b).F z t) (-((bd b).e z t))=some x->HQ (z+x.1) 20000/\HQ (t+x.2) 20000:=fun x hx=>zz hb hp hx;refine⟨Bb _ _ _ _ _ (a:=300) (b:=96*(n+m+62)+400) (Vq.ofQ (h:=B6 hb p)) (Vq.ofQ (h:=B5 hb p)) (Vq.ofQ (h:=GQ hb p)) (Vq.ofQ (h:=hF)) (Vq.ofQ (h:=hE)) Y J,fun x hx=>?_,fun x hx=>?_⟩
 .obtain⟨h1,h2⟩:=hd x hx;have q1:HQ x.1 (20000+(n+1)+1):=by
   have:=@HQ.sub _ _ 20000 (n+1) h1 ha.z.hq;rwa [show z+x.1-z=x.1 by grind]at this
  have q2:HQ x.2 (20000+(m+1)+1):=by
   have:=@HQ.sub _ _ 20000 (m+1) h2 ha.t.hq;rwa [show t+x.2-t=x.2 by grind]at this
  exact Av a ⟨ofQ x.1,ofQ x.2⟩ (hd:=⟨Vq.ofQ (h:=q1),Vq.ofQ (h:=q2)⟩) J J J J
 .obtain⟨h1,h2⟩:=hd x hx;exact sQ b hb ⟨ofQ (z+x.1),ofQ (t+x.2)⟩ (ha:=⟨Vq.ofQ (h:=h1),Vq.ofQ (h:=h2)⟩) Y
def BP (b:BR)(z t:Rat):Option (Rat × Rat)->Option (Rat × Rat)
 |none=>none
 |some d=>if (bd b).Bal (z+d.1) (t+d.2) then some (z+d.1,t+d.2) else none
def Ir (b:BR)(z t:Rat)(p:Nat->Nat):Option (Rat × Rat):=Bd.newt ((bd b).Kh p) ((bd b).Kc p) ((bd b).Kp p) ((bd b).w-(bd b).F z t) (-((bd b).e z t))
theorem Ad (b:BR)(z t:Rat)(p:Nat->Nat):(bd b).tryP z t p=BP b z t (Ir b z t p):=by
 rw[Bd.tryP,Ir];cases Bd.newt ((bd b).Kh p) ((bd b).Kc p) ((bd b).Kp p) ((bd b).w-(bd b).F z t) (-((bd b).e z t))<;>rfl
theorem AN (b:BR)(hb:b.Ok)(a:AR){z t:Rat}{n m:Nat}[ha:Va a z t n m](hn:n+m<=50000):bb 192 [.agg (eB b),.agg (eA a)] (GX ((bd b).guess z t)):=by
 have h1:=mg b.l hb.lim.l hb.chkL hb.few a J;have h2:=bH b.w hb.lim.w;have zw:Zb b.w:=aL hb.lim.w.1 hb.lim.w.2;have v1:Vq (ofQ (am (fI b.l z t) b.l.length)) (am (fI b.l z t) b.l.length) (96*(n+1+(m+1)+60)+200):=Vq.ofQ (h:=Hs hb.lim.l hb.few ha.z.hq ha.t.hq);have h3:=mc (ofQ (b.w:Rat)) (ofQ (am (fI b.l z t) b.l.length)) (hy:=v1) Y J;rw[show(b.w:Rat)-am (fI b.l z t) b.l.length=(bd b).w-(bd b).F z t from O]at h3;have h4:=p9 b hb a J;have v4:Vq (ofQ ((bd b).e z t)) ((bd b).e z t) (96*(n+1+(m+1)+60)+200+17+1):=Vq.ofQ (h:=HK hb ha.z.hq ha.t.hq);have h5:=IX (ofQ ((bd b).e z t)) (hx:=v4) J;have h6:=sv a;have h7:=vT a;have sR:=yw b hb a (z:=z) (t:=t) J;have sL:=yu b hb a (z:=z) (t:=t) J;have cR:=Je b hb a ha hn (C5 hb z t);have cL:=Je b hb a ha hn (G_ hb z t);rw[show Bd.newt ((bd b).Kh ((bd b).pR z t)) ((bd b).Kc ((bd b).pR z t)) ((bd b).Kp ((bd b).pR z t)) ((bd b).w-(bd b).F z t) (-((bd b).e z t))=Ir b z t ((bd b).pR z t) from O]at cR;rw[show Bd.newt ((bd b).Kh ((bd b).pL z t)) ((bd b).Kc ((bd b).pL z t)) ((bd b).Kp ((bd b).pL z t)) ((bd b).w-(bd b).F z t) (-((bd b).e z t))=Ir b z t ((bd b).pL z t) from O]at cL;generalize hG:(bd b).guess z t=G0;rw[Bd.guess,Ad,Ad]at hG;generalize hPR:(bd b).pR z t=pR at *
 generalize hPL:(bd b).pL z t=pL at *
 obtain⟨m1,m2,m3⟩:=cR;obtain⟨l1,l2,l3⟩:=cL;generalize Ir b z t pR=oR,Ir b z t pL=oL at *
 rw[Jo]at sR sL m1 l1;generalize ofQ ((bd b).Kh pR)=R1,ofQ ((bd b).Kc pR)=R2,ofQ ((bd b).Kp pR)=R3,ofQ ((bd b).Kh pL)=L1,ofQ ((bd b).Kc pL)=L2,ofQ ((bd b).Kp pL)=L3,ofQ ((bd b).w-(bd b).F z t)=FO,ofQ (-((bd b).e z t))=MO,ofQ ((bd b).e z t)=EX,ofQ (am (fI b.l z t) b.l.length)=TF,ofQ (am (gI b.l z t) b.l.length)=TG at *
 refine ay Proofs.Tryz.func192 ?_;refine G h1 ?_;refine H ?_;refine cp [(6,8),(7,8)] aN aN ?_;refine G h2 ?_;refine G h3 ?_;refine G h4 ?_;refine G h5 ?_;refine H ?_;refine cY [35] [4,5] aN ?_;refine G h6 ?_;refine G h7 ?_;refine H ?_;refine pK O O O (b8 2 O O O O O O O O O O O ak O ⟨nR O,?_⟩);refine H ?_;refine ao (fun i:Nat=>(i=0/\(match BP b z t oR with|some x=>some x|none=>BP b z t oL)=G0)\/(i=1/\BP b z t oL=G0)\/(i=2/\G0=none)) (fun i=>[(2,.ptr 2 1 0 0),(3,.ptr 3 1 0 0),(4,.ptr 4 1 0 0),(8,.ptr 8 1 0 0),(9,.ptr 9 1 0 0),(35,.als 35 1 0 2),(36,I 2),(37,I (i:Nat))])
  (fun _=>[(2,1,⟨128,6,[eB b],2⟩),(3,1,⟨43,8,[eA a],2⟩),(4,1,⟨43,8,[zN++zN],2⟩),(8,1,⟨41,4,[eR FO],2⟩),(9,1,⟨41,4,[eR MO],2⟩),(35,1,⟨270,1,[[.clo 303 [.dref (eA a) 0]],[.clo 305 [.dref (eA a) 0]]],2⟩)]) (fun i=>2-i) 0 (.inl ⟨O,hG⟩) ak ?_
 intro i s hi;rcases hi with⟨rfl,hG⟩|⟨rfl,hG⟩|⟨rfl,hG⟩
 .cases oR with
  |none =>
   refine H ?_;refine bX O O (co O O O O O O O Y Y) ?_;refine H ?_;refine cY [12] [10,11] aN ?_;refine G sR ?_;refine G m1 ?_;refine dg 8 [51,52,53,54,55,56,57,58] ?_;refine H ?_;exact⟨1,.inr (.inl ⟨O,hG⟩),Y,ak⟩
  |some d =>
   have k1:=m2 d O;have k2:=m3 d O;rw[qA]at m1;rw[BP]at hG;by_cases hbal:(bd b).Bal (z+d.1) (t+d.2)
   .rw[decide_eq_true hbal]at k2;rw[if_pos hbal]at hG;try simp only at hG
    subst hG;rw[GX];dsimp only;generalize ofQ (z+d.1)=Y1,ofQ (t+d.2)=Y2,ofQ d.1=Y3,ofQ d.2=Y4 at *
    refine H ?_;refine bX O O (co O O O O O O O Y Y) ?_;refine H ?_;refine cY [12] [10,11] aN ?_;refine G sR ?_;refine G m1 ?_;refine dg 8 [51,52,53,54,55,56,57,58] ?_;refine G k1 ?_;refine aB k2 ?_;refine G k1 ?_;exact cy
   .rw[decide_eq_false hbal]at k2;rw[if_neg hbal]at hG;try simp only at hG
    generalize ofQ (z+d.1)=Y1,ofQ (t+d.2)=Y2,ofQ d.1=Y3,ofQ d.2=Y4 at *
    refine H ?_;refine bX O O (co O O O O O O O Y Y) ?_;refine H ?_;refine cY [12] [10,11] aN ?_;refine G sR ?_;refine G m1 ?_;refine dg 8 [51,52,53,54,55,56,57,58] ?_;refine G k1 ?_;refine aB k2 ?_;refine H ?_;exact⟨1,.inr (.inl ⟨O,hG⟩),Y,ak⟩
 .cases oL with
  |none =>
   refine H ?_;refine bX O O (co O O O O O O O Y Y) ?_;refine H ?_;refine cY [12] [10,11] aN ?_;refine G sL ?_;refine G l1 ?_;refine dg 8 [51,52,53,54,55,56,57,58] ?_;refine H ?_;exact⟨2,.inr (.inr ⟨O,hG.symm⟩),Y,ak⟩
  |some d =>
   have k1:=l2 d O;have k2:=l3 d O;rw[qA]at l1;rw[BP]at hG;by_cases hbal:(bd b).Bal (z+d.1) (t+d.2)
   .rw[decide_eq_true hbal]at k2;rw[if_pos hbal]at hG;try simp only at hG
    subst hG;rw[GX];dsimp only;generalize ofQ (z+d.1)=Y1,ofQ (t+d.2)=Y2,ofQ d.1=Y3,ofQ d.2=Y4 at *
    refine H ?_;refine bX O O (co O O O O O O O Y Y) ?_;refine H ?_;refine cY [12] [10,11] aN ?_;refine G sL ?_;refine G l1 ?_;refine dg 8 [51,52,53,54,55,56,57,58] ?_;refine G k1 ?_;refine aB k2 ?_;refine G k1 ?_;exact cy
   .rw[decide_eq_false hbal]at k2;rw[if_neg hbal]at hG;try simp only at hG
    generalize ofQ (z+d.1)=Y1,ofQ (t+d.2)=Y2,ofQ d.1=Y3,ofQ d.2=Y4 at *
    refine H ?_;refine bX O O (co O O O O O O O Y Y) ?_;refine H ?_;refine cY [12] [10,11] aN ?_;refine G sL ?_;refine G l1 ?_;refine dg 8 [51,52,53,54,55,56,57,58] ?_;refine G k1 ?_;refine aB k2 ?_;refine H ?_;exact⟨2,.inr (.inr ⟨O,hG.symm⟩),Y,ak⟩
 .subst hG;exact cy
def rV (s:SR)(z t:Rat):Rat:=bU s.k.m (rD s.k.s (yQ s z t) s.k.S.length)
def lV (s:SR)(z t:Rat):Rat:=bU s.k.m (x6 s.k.s (yQ s z t) s.k.S.length)
def EZ (z t A B:Rat)(s:SR):Bool:=decide (¬((0<A+B*(s.x:Rat)/\rV s z t≠0)\/(A+B*(s.x:Rat)<0/\lV s z t≠0)))
def ov (l:List SR)(z t A B:Rat):Bool:=l.all (EZ z t A B)
theorem z6 {p:Rat}(h:0<p):sgn p=1:=by rw[sgn,if_neg aW,if_neg aW]
theorem zY {p:Rat}(h:p<0):sgn p = -1:=by rw[sgn,if_pos h]
theorem qP {p:Rat}(h:p=0):sgn p=0:=(l_ p).2 h
theorem Ec {p:Rat}(h:p≠0):sgn p=1\/sgn p = -1:=by
 rcases cx (0<p) with h1|h1
 .exact .inl (z6 h1)
 .exact .inr (zY aW)
theorem CN (b:BR)(hb:b.Ok)(a:AR){z t:Rat}{n m:Nat}[ha:Va a z t n m](hn:n+m<=50000)(r:AR){A B:Rat}{n' m':Nat}(hr:Va r A B n' m')(h2:n'<=100000)(h3:m'<=100000):bb 196 [.agg (eB b),.agg (eA a),.agg (eA r)] (.bool (ov b.l z t A B)):=by
 have h6:=sv a;have h7:=vT a;have hck:=hb.chkL;have hl:=hb.lim.l;have h12:=hb.few.1;have hrz:=hr.z;have hrt:=hr.t;generalize hF:ov b.l z t A B=F;rw[ov]at hF;obtain⟨w,ba,l⟩:=b;simp only at *
 have hml:(l.map eS).length=l.length:=aj;obtain⟨rz,rt⟩:=r;simp only at hrz hrt;refine ay Proofs.Tryz.func196 ?_;refine H ?_;refine ao (fun i:Nat=>i<=l.length/\(l.drop i).all (EZ z t A B)=l.all (EZ z t A B)) (fun i=>[(4,.ptr 4 1 0 0),(5,.ptr 5 1 0 0),(11,.sl (l.map eS)),(12,I l.length),(13,I (i:Nat))])
  (fun i=>[(4,1,⟨43,8,[eA a],2⟩),(5,1,⟨48,8,[eA ⟨rz,rt⟩],2⟩)]) (fun i=>l.length-i) 0 ⟨aF _,by rw[fS]⟩ ⟨O,O,O,by rw[<-hml];rfl,ak⟩ ?_
 intro i s ⟨hi,hall⟩;refine D ?_ ?_<;>intro h
 .have hlt:i<l.length:=cP h;clear h;obtain⟨x,hx⟩:=aK hlt;have hxm:=bG hx;have hxl:=hl.1 x hxm;have hkc:=dD hck x hxm;have zx:Zb x.x:=aL hxl.x.1 hxl.x.2;have hw:=im i;have hdr:(l.drop i).all (EZ z t A B)=(EZ z t A B x&&(l.drop (i+1)).all (EZ z t A B)):=by
   obtain⟨hl1,h2⟩:=bD hx;rw[lR hl1,h2,kH]
  rw[hdr]at hall;have hbd:EZ z t A B x=EZ z t A B x:=O
  conv at hbd=>rhs;rw[EZ]
  have e1:=bH x.x hxl.x;have e2:=gu rt (ofQ (x.x:Rat)) (hx:=hrt) J Y;have v2:Vq (ofQ (B*(x.x:Rat))) (B*(x.x:Rat)) (m'+1+4):=Vq.ofQ (h:=@HQ.mul _ _ (m'+1) 4 hrt.hq HQ.int);have e3:=dh rz (ofQ (B*(x.x:Rat))) (hx:=hrz) (hy:=v2) J J;have v3:Vq (ofQ (A+B*(x.x:Rat))) (A+B*(x.x:Rat)) (n'+1+(m'+1+4)+1):=Vq.ofQ (h:=@HQ.add _ _ (n'+1) _ hrz.hq (fh v2));have e4:=qQ (ofQ (A+B*(x.x:Rat))) (hx:=v3) J;have cr:=qM x hxl hkc a (z:=z) (t:=t) J;have cl:=r5 x hxl hkc a (z:=z) (t:=t) J;rw[show bU x.k.m (rD x.k.s (yQ x z t) x.k.S.length)=rV x z t from O]at cr;have vr:Vq (ofQ (rV x z t)) (rV x z t) 13:=Vq.ofQ (h:=(rI x.k hxl.k _).hq);have vl:Vq (A4 x.k (yQ x z t) x.k.S.length) (lV x z t) 12:=Dd hxl.k _ _;have sr:=qQ (ofQ (rV x z t)) (hx:=vr) Y;have sl:=qQ (A4 x.k (yQ x z t) x.k.S.length) (hx:=vl) Y;generalize ofQ (rV x z t)=RV,A4 x.k (yQ x z t) x.k.S.length=LV,EZ z t A B x=ok,ofQ (A+B*(x.x:Rat))=D1,ofQ (B*(x.x:Rat))=D2,ofQ (x.x:Rat)=D3 at *
  rcases cx (0<A+B*(x.x:Rat)) with hd|hd
  .rw[z6 hd]at e4;rcases cx (rV x z t=0) with hz|hz
   .rw[qP hz]at sr;have hbad:ok=true:=by rw[hbd,decide_eq_true];rintro(⟨_,h⟩|⟨h,_⟩);exact h hz;grind
    rw[hbad,jd]at hall;refine aZ hx ?_;refine dg 11 [17,18,19,20,21,22,23,24,25,26,9] ?_;refine G e1 ?_;refine G e2 ?_;refine G e3 ?_;refine aB e4 ?_;refine dg 22 [27,28,29,30,31,32,33,34,35,36,37,38,39,40,41,42,43,44,45,46,47,48] ?_;refine G h6 ?_;refine G cr ?_;refine aB sr ?_;refine H ?_;exact⟨i+1,⟨J,hall⟩,J,O,O,O,O,congrArg I hw,ak⟩
   .have hbad:ok=false:=by rw[hbd,decide_eq_false];exact fun h=>h (.inl ⟨hd,hz⟩)
    rw[hbad,kG]at hall;rcases Ec hz with hs|hs
    .rw[hs]at sr;refine aZ hx ?_;refine dg 11 [17,18,19,20,21,22,23,24,25,26,9] ?_;refine G e1 ?_;refine G e2 ?_;refine G e3 ?_;refine aB e4 ?_;refine dg 22 [27,28,29,30,31,32,33,34,35,36,37,38,39,40,41,42,43,44,45,46,47,48] ?_;refine G h6 ?_;refine G cr ?_;refine aB sr ?_;refine H ?_;exact jU O O (by rw[<-hF,<-hall])
    .rw[hs]at sr;refine aZ hx ?_;refine dg 11 [17,18,19,20,21,22,23,24,25,26,9] ?_;refine G e1 ?_;refine G e2 ?_;refine G e3 ?_;refine aB e4 ?_;refine dg 22 [27,28,29,30,31,32,33,34,35,36,37,38,39,40,41,42,43,44,45,46,47,48] ?_;refine G h6 ?_;refine G cr ?_;refine aB sr ?_;refine H ?_;exact jU O O (by rw[<-hF,<-hall])
  .rcases cx (A+B*(x.x:Rat)<0) with hd2|hd2
   .rw[zY hd2]at e4;rcases cx (lV x z t=0) with hz|hz
    .rw[qP hz]at sl;have hbad:ok=true:=by rw[hbd,decide_eq_true];rintro(⟨h,_⟩|⟨_,h⟩);exact hd h;exact h hz
     rw[hbad,jd]at hall;refine aZ hx ?_;refine dg 11 [17,18,19,20,21,22,23,24,25,26,9] ?_;refine G e1 ?_;refine G e2 ?_;refine G e3 ?_;refine aB e4 ?_;refine dg 22 [27,28,29,30,31,32,33,34,35,36,37,38,39,40,41,42,43,44,45,46,47,48] ?_;refine G h7 ?_;refine G cl ?_;refine aB sl ?_;refine H ?_;exact⟨i+1,⟨J,hall⟩,J,O,O,O,O,congrArg I hw,ak⟩
    .have hbad:ok=false:=by rw[hbd,decide_eq_false];exact fun h=>h (.inr ⟨hd2,hz⟩)
     rw[hbad,kG]at hall;rcases Ec hz with hs|hs
     .rw[hs]at sl;refine aZ hx ?_;refine dg 11 [17,18,19,20,21,22,23,24,25,26,9] ?_;refine G e1 ?_;refine G e2 ?_;refine G e3 ?_;refine aB e4 ?_;refine dg 22 [27,28,29,30,31,32,33,34,35,36,37,38,39,40,41,42,43,44,45,46,47,48] ?_;refine G h7 ?_;refine G cl ?_;refine aB sl ?_;refine H ?_;exact jU O O (by rw[<-hF,<-hall])
     .rw[hs]at sl;refine aZ hx ?_;refine dg 11 [17,18,19,20,21,22,23,24,25,26,9] ?_;refine G e1 ?_;refine G e2 ?_;refine G e3 ?_;refine aB e4 ?_;refine dg 22 [27,28,29,30,31,32,33,34,35,36,37,38,39,40,41,42,43,44,45,46,47,48] ?_;refine G h7 ?_;refine G cl ?_;refine aB sl ?_;refine H ?_;exact jU O O (by rw[<-hF,<-hall])
   .rw[qP (show A+B*(x.x:Rat)=0 by grind)]at e4;have hbad:ok=true:=by rw[hbd,decide_eq_true];rintro(⟨h,_⟩|⟨h,_⟩);exact hd h;exact hd2 h
    rw[hbad,jd]at hall;refine aZ hx ?_;refine dg 11 [17,18,19,20,21,22,23,24,25,26,9] ?_;refine G e1 ?_;refine G e2 ?_;refine G e3 ?_;refine aB e4 ?_;refine dg 22 [27,28,29,30,31,32,33,34,35,36,37,38,39,40,41,42,43,44,45,46,47,48] ?_;refine H ?_;exact⟨i+1,⟨J,hall⟩,J,O,O,O,O,congrArg I hw,ak⟩
 .have hie:i=l.length:=cG h;clear h;rw[hie,iw,List.all_nil]at hall;rw[<-hall]at hF;subst hF;exact rq
theorem xU (b:BR)(hb:b.Ok)(a:AR){z t:Rat}{n m:Nat}[ha:Va a z t n m](hn:n+m<=50000)(r:AR){A B:Rat}{n' m':Nat}(hr:Va r A B n' m')(h2:n'<=100000)(h3:m'<=100000):bb 195 [.agg (eA r),.dref (eB b) 0,.dref (eA a) 0] (.bool (ov b.l z t A B)):=by
 have h1:=CN b hb a (z:=z) (t:=t) hn r hr h2 h3;generalize ov b.l z t A B=F at *
 refine ay Proofs.Tryz.func195 ?_;refine aB h1 ?_;exact rq
def qk (p:AR->Bool):List AR->Nat->Int
 |[],_ => -1
 |d::l,i=>if p d=true then(i:Int) else qk p l (i+1)
theorem vH (p:AR->Bool):∀(l:List AR) (i:Nat),decide (0<=qk p l i)=l.any p
 |[],i=>rfl
 |d::l,i=>by
  rw[qk,List.any_cons];cases h:p d
  .rw[if_neg Y,vH p l (i+1),kI]
  .rw[if_pos O,Bool.true_or,decide_eq_true];omega
theorem AO (p:AR->Bool){l:List AR}{i:Nat}{x:AR}(h:l[i]?=some x):qk p (l.drop i) i=if p x=true then(i:Int) else qk p (l.drop (i+1)) (i+1):=by
 obtain⟨hl,rfl⟩:=bD h;rw[lR hl,qk]
theorem xK (T:List AR)(hT:T.length<=1000)(f:FuncId)(c1 c2:List PV)(p:AR->Bool)(hg:∀d∈T,bb f [.agg (eA d),.dref c1 0,.dref c2 0] (.bool (p d))):bb 266 [.sl (T.map eA),.clo f [.dref c1 0,.dref c2 0]] (I (qk p T 0)):=by
 have hml:(T.map eA).length=T.length:=aj;generalize hF:qk p T 0=F;refine ay Proofs.Tryz.func266 ?_;refine H ?_;refine ao (fun i:Nat=>i<=T.length/\qk p (T.drop i) i=F) (fun i=>[(0,.sl (T.map eA)),(1,.clo f [.dref c1 0,.dref c2 0]),(7,I T.length),(8,I (i:Nat))])
  (fun _=>[]) (fun i=>T.length-i) 0 ⟨aF _,by rw[fS];exact hF⟩ ⟨O,O,by rw[<-hml];rfl,O,bP⟩ ?_
 intro i s ⟨hi,hall⟩;refine D ?_ ?_<;>intro h
 .have hlt:i<T.length:=cP h;clear h;obtain⟨x,hx⟩:=aK hlt;have hgx:=hg x (bG hx);have hw:=im i;rw[AO p hx]at hall;cases hp:p x with
  |true =>
   rw[hp]at hgx;rw[if_pos hp]at hall;refine aZ hx ?_;refine aB hgx ?_;refine H ?_;exact rR O O (by rw[<-hall])
  |false =>
   rw[hp]at hgx;rw[if_neg (by rw[hp];decide)]at hall;refine aZ hx ?_;refine aB hgx ?_;refine H ?_;exact⟨i+1,⟨J,hall⟩,J,O,O,O,congrArg I hw,bP⟩
 .have hie:i=T.length:=cG h;clear h;rw[hie,iw,qk]at hall;rw[<-hall];exact dL
theorem rn (T:List AR)(hT:T.length<=1000)(f:FuncId)(c1 c2:List PV)(p:AR->Bool)(hg:∀d∈T,bb f [.agg (eA d),.dref c1 0,.dref c2 0] (.bool (p d))):bb 194 [.sl (T.map eA),.clo f [.dref c1 0,.dref c2 0]] (.bool (T.any p)):=by
 have h1:=xK T hT f c1 c2 p hg;rw[<-vH p T 0];generalize qk p T 0=F at *
 refine ay Proofs.Tryz.func194 ?_;refine aB h1 ?_;exact rq
theorem yD {K:St->Prop}{s:St}{d g2 g3:Nat}{R2 R3:Cont}{x:Operand}{tys:Array TypeId}{ty:TypeId}{pos:String}{af:Array Edge}(l:List SR)(hl:lB l)(h12:l.length<=1000)(hck:di l=0)
  (hx:s.ev x=.sl (l.map eS)) (ho:FitO s [(2,g2,R2),(1003,g3,R3)])
  (hK:∀(s1:St) (g:Nat),K (({ reg:=s.reg,own:=(s1.over [] [(2,g2,R2),(1003,g3,R3),(3,g,⟨48,8,(ef l).map eA,1⟩)]).own }:St).putR d (.als 3 g 0 ((ef l).map eA).length))) :
  Sm Tryz.prog lay.get s ⟨some d,.call ⟨.value (.func 187),#[x],tys⟩,ty,pos,af,none⟩ K:=by
 have hp:=qD l hl h12;have hrg:∀x∈cN l,-1000000<=x/\x<=1000000:=fun x hx=>ig hck hx;have hpl:=jz l;have w1:=bH 1 ⟨Y,Y⟩;have w2:=bH (-1) ⟨Y,Y⟩;rw[ef]at hK;generalize cN l=Pl at *
 have hml:(Pl.map eN).length=Pl.length:=aj;have hrows:∀(k:Nat) x,Pl[k]?=some x->((Pl.take (k+1)).map rG).map eA=((Pl.take k).map rG).map eA++[eA (rG x)]:=fun k x hx=>by rw[bY hx,bQ,bQ];rfl
 have hrows2:∀(k:Nat) x,Pl[k]?=some x->(Pl.map rG++(Pl.take (k+1)).map yR).map eA=(Pl.map rG++(Pl.take k).map yR).map eA++[eA (yR x)]:=fun k x hx=>by rw[bY hx];simp[bQ]
 refine cB dY O O Tryz.func187 O Y O O ?_;show PWP _ _ _ _ (bJ s (([x]:List Operand).map s.ev++[]));rw[show(([x]:List Operand).map s.ev++([]:List PV))=[.sl (l.map eS)] by simp[hx]];rw[show bJ s [.sl (l.map eS)]=bJ (s.over [] [(2,g2,R2),(1003,g3,R3)]) [.sl (l.map eS)] by rw[Fit.over (l:=[]) ho]]
 ((repeat (first|refine bg ?_ | refine d_ ?_ | refine dK ?_ | refine dT ?_));refine bV ?_)
 refine m9 O trivial ?_
 ((repeat (first|refine bg ?_ | refine d_ ?_ | refine dK ?_ | refine dT ?_));refine bV ?_)
 (first|refine aC (j4 48 8 1 O O ?_)|refine aC (j3 48 8 1 O O ?_))
 refine G hp ?_;refine H ?_;refine cA [(0,.sl (l.map eS)),(3,.als 3 ((s.own 3).1+1) 0 0),(9,.sl (Pl.map eN)),(10,I (Pl.map eN).length),(11,I ((0:Nat):Int))] [(2,g2,R2),(1003,g3,R3),(3,(s.own 3).1+1,⟨48,8,[],1⟩)] ak ?_;generalize (s.own 3).1+1=g;rw[hml];intro s0;refine ao (fun k=>k<=Pl.length) (fun k=>[(0,.sl (l.map eS)),(3,.als 3 (g+k) 0 (((Pl.take k).map rG).map eA).length),(9,.sl (Pl.map eN)),(10,I Pl.length),(11,I k)]) (fun k=>[(2,g2,R2),(1003,g3,R3),(3,g+k,⟨48,8,((Pl.take k).map rG).map eA,1⟩)]) (fun k=>Pl.length-k) 0 (aF _) ak ?_;intro k s1 hk;refine D ?_ ?_<;>intro h
 .have hlt:k<Pl.length:=cP h;clear h;obtain⟨x,hx⟩:=aK hlt;have hr:=hrg x (bG hx);have hnx:=bH (-x) ⟨J,J⟩;have hw:=im k;have hn:IntKind.i64.wrap (0-x) = -x:=by rw[wrap_i64 J J];omega
  refine aZ hx ?_;refine H ?_;rw[hn];refine yd O O O hnx O O ?_;refine G w1 ?_;refine H ?_;refine aC (b8 1 O O O O O O O O O O O ak O ?_);refine H ?_;refine aC (cQ 1 O O O O O O O O O O O ak jM O O aX aX ?_);refine H ?_;refine⟨k+1,hlt,J,O,?_,O,O,congrArg I hw,O,O,?_,bP⟩
  .rw[hrows k x hx];rfl
  .rw[hrows k x hx];rfl
 .have hge:k=Pl.length:=cG h;subst hge;clear h;rw[bM];refine G hp ?_;refine H ?_;refine ao (fun k=>k<=Pl.length) (fun k=>[(3,.als 3 (g+Pl.length+k) 0 ((Pl.map rG++(Pl.take k).map yR).map eA).length),(25,.sl (Pl.map eN)),(26,I Pl.length),(27,I k)]) (fun k=>[(2,g2,R2),(1003,g3,R3),(3,g+Pl.length+k,⟨48,8,(Pl.map rG++(Pl.take k).map yR).map eA,1⟩)]) (fun k=>Pl.length-k) 0 (aF _) ⟨by rw[ib,fC,cu];rfl,O,by rw[<-hml];rfl,O,O,O,by rw[ib,fC,cu];rfl,bP⟩ ?_;intro k s2 hk;refine D ?_ ?_<;>intro h
  .have hlt:k<Pl.length:=cP h;clear h;obtain⟨x,hx⟩:=aK hlt;have hr:=hrg x (bG hx);have hnx:=bH x ⟨J,J⟩;have hw:=im k;refine aZ hx ?_;refine G hnx ?_;refine G w2 ?_;refine H ?_;refine aC (b8 1 O O O O O O O O O O O ak O ?_);refine H ?_;refine aC (cQ 1 O O O O O O O O O O O ak jM O O aX aX ?_);refine H ?_;refine⟨k+1,hlt,J,?_,O,O,congrArg I hw,O,O,?_,bP⟩
   .rw[hrows2 k x hx];rfl
   .rw[hrows2 k x hx];rfl
  .have hge:k=Pl.length:=cG h;subst hge;clear h;rw[bM];refine H ?_;exact td O O (hK s2 (g+Pl.length+Pl.length))
def Hg:AR:=⟨ofQ ((-1:Int):Rat),ofQ ((0:Int):Rat)⟩
def k_ (l:List SR):List AR:=ef l++[fi,Hg]
def qt (b:BR)(z t:Rat):Bool:=(k_ b.l).any fun d=>ov b.l z t d.z.val d.t.val
theorem Fp {l:List SR}(hck:di l=0){r:AR}(h:r∈k_ l):Va r r.z.val r.t.val 4 4:=by
 rw[k_,fe]at h;rcases h with h|h
 .exact Ae hck h
 .simp at h;rcases h with rfl|rfl
  .exact yV
  .exact⟨vI ⟨Y,Y⟩,vI ⟨Y,Y⟩⟩
theorem GC {r1 r2:List PV}{n:Nat}(h1:r1.length=n)(h2:r2.length=n):∀row∈[r1,r2],row.length=n:=by
 intro row hr;rcases cw.1 hr with rfl|hr
 .exact h1
 .rcases cw.1 hr with rfl|hr
  .exact h2
  .cases hr
theorem A8 (b:BR)(hb:b.Ok)(a:AR){z t:Rat}{n m:Nat}[ha:Va a z t n m](hn:n+m<=50000):bb 121 [.agg (eB b),.agg (eA a)] (.bool (qt b z t)):=by
 have hl:=hb.lim.l;have hck:=hb.chkL;have h12:=hb.few.1;have hlen:(k_ b.l).length<=1000:=by
  have:=jz b.l;rw[k_,ef];simp;omega
 have hc:=rn (k_ b.l) hlen 195 (eB b) (eA a) (fun d=>ov b.l z t d.z.val d.t.val) fun d hd=>xU b hb a (z:=z) (t:=t) hn d (Fp hck hd) Y Y;rw[show(k_ b.l).any (fun d=>ov b.l z t d.z.val d.t.val)=qt b z t from O]at hc;have w1:=bH 1 ⟨Y,Y⟩;have w0:=bH 0 ⟨Y,Y⟩;have w2:=bH (-1) ⟨Y,Y⟩;generalize qt b z t=F at *
 have hT:(ef b.l).length<=1000:=by rw[k_]at hlen;simp at hlen;omega
 have hrow:(ef b.l).map eA++[eA fi,eA Hg]=(k_ b.l).map eA:=by rw[k_,bQ];rfl
 refine ay Proofs.Tryz.func121 ?_;refine dN 1 ?_;refine ax (Ghost.move (k:=3) (k':=1003) (t:=3) O O O O) ?_
 (refine dN 1 ?_;refine aD 2 ?_)
 iterate 2 refine g_ O ?_
 refine bg ?_;refine aU O (yD (g2:=1) (g3:=1) b.l hl J hck O ⟨O,O,bP⟩ fun s1 g=>?_);refine aE ?_;refine G w1 ?_;refine G w0 ?_;refine G w2 ?_;refine G w0 ?_;refine H ?_;refine aC (b8 1 O O O O O O O O O O O ak O ?_);refine H ?_;refine aC (cQ 1 O O O O O O O O O O O ak (GC O O) O O aX aX ?_);refine dN 2 ?_;refine ax (Ghost.data (k:=2) (t:=2) O O O O) ?_;refine ax (Ghost.data (k:=1003) (t:=3) O O O O) ?_;refine H ?_;rw[<-hrow]at hc;refine I7 O O O hc O O O ?_;exact rq
theorem IF (s:SR)(t:Rat)(k:Nat):prB (bn s t k)=(s.k.s k-(s.c.val+t*(s.x:Rat)),s.k.m k-bU s.k.m k):=by
 rw[prB,bn,ofQ_val,ofQ_val];rfl
theorem HC (b:BR)(t:Rat):(nD b.l t).map prB=(bd b).bnds t:=by
 rw[nD,Bd.bnds,List.map_flatMap];show _=(List.range b.l.length).flatMap ((bd b).bnd1 t);have e:∀s:SR,(rj t s).map prB=(List.range s.k.S.length).map fun k=>(s.k.s k-(s.c.val+t*(s.x:Rat)),s.k.m k-bU s.k.m k):=by
  intro s;rw[rj,jg];exact cE fun k _=>IF s t k
 have key:∀(l:List SR),(l.flatMap fun s=>(rj t s).map prB)=(List.range l.length).flatMap fun i=>(rj t (l.getD i dS)).map prB:=by
  intro l
  induction l with
  |nil=>rfl
  |cons x l ih =>
   rw[js,ih,eJ,tm,js,List.flatMap_map];rfl
 rw[key];refine congrArg (fun f=>(List.range b.l.length).flatMap f) (funext fun i=>?_);rw[e];rfl
theorem n8 {b:BR}(hb:b.Ok){t:Rat}(hex:∃z,(bd b).w<=(bd b).F z t):(bd b).Least (gY b t) t:=by
 refine Bd.settled_least (k9 hb) hex ?_ ?_
 .rw[<-HC];exact(jC bO (nD b.l t)).map prB
 .rw[Ci,List.pairwise_map];exact gH bO (nD b.l t)
theorem kn {b:BR}(hb:b.Ok){t:Rat}(hex:∃z,(bd b).w<=(bd b).F z t):gY b t=(bd b).sg t:=(Bd.sg_eq (n8 hb hex)).symm
theorem C6 {b:BR}(z t:Rat):(bd b).Inl ((bd b).pL z t) z t:=fun i hi=>x7
theorem yx {b:BR}(hb:b.Ok){t:Rat}{m:Nat}(ht:HQ t m)(hex:∃z,(bd b).w<=(bd b).F z t):HQ (gY b t) (m+5000):=by
 have hl:=n8 hb hex;have hK:=hl.K (k9 hb) (C6 _ _);have hz:=Bd.ln_at (k9 hb) hl.1 (C6 (b:=b) (gY b t) t).c hK;rw[hz,Bd.ln];have hw:Zb b.w:=aL hb.lim.w.1 hb.lim.w.2;have wq:HQ ((bd b).w) 4:=HQ.int;have hpn:∀i,i<b.l.length->(bd b).pL (gY b t) t i<=(bd b).n i:=fun i hi=>(C6 (b:=b) (gY b t) t i hi).1;have fo:=GP hb hpn;have kc:=B5 hb ((bd b).pL (gY b t) t);have kh:=B6 hb ((bd b).pL (gY b t) t);exact(@HQ.div _ _ _ 300 (@HQ.sub _ _ _ _ (@HQ.sub _ _ 4 4100 wq fo) (@HQ.mul _ _ 300 m kc ht)) kh).mono J
theorem Ev {b:BR}(hb:b.Ok){t:Rat}{m:Nat}(ht:HQ t m)(hex:∃z,(bd b).w<=(bd b).F z t):Va ⟨ofQ (gY b t),ofQ t⟩ (gY b t) t (m+5000) m:=⟨Vq.ofQ (h:=yx hb ht hex),Vq.ofQ (h:=ht)⟩
theorem vv {b:BR}(hb:b.Ok){t:Rat}{m:Nat}(ht:HQ t m)(hm:m<=20000)(hex:∃z,(bd b).w<=(bd b).F z t):bb 189 [.agg (eB b),.agg (eA ⟨ofQ (gY b t),ofQ t⟩)] (.agg (eR (ofQ ((bd b).E t)))):=by
 have:=p9 b hb ⟨ofQ (gY b t),ofQ t⟩ (ha:=Ev hb ht hex) J;rwa [show(bd b).e (gY b t) t=(bd b).E t by rw[Bd.E,kn hb hex]]at this
theorem Bv {b:BR}(hb:b.Ok){t:Rat}{m:Nat}(ht:HQ t m)(hm:m<=20000)(hex:∃z,(bd b).w<=(bd b).F z t):bb 188 [.agg (eR (ofQ ((bd b).E t)))] (I (sgn ((bd b).E t))):=by
 have h1:=HK hb (yx hb ht hex) ht;rw[show(bd b).e (gY b t) t=(bd b).E t by rw[Bd.E,kn hb hex]]at h1;exact qQ (ofQ ((bd b).E t)) (hx:=Vq.ofQ (h:=h1)) J
theorem qf {b:BR}(hb:b.Ok){t:Rat}{m:Nat}(ht:HQ t m)(hm:m<=20000)(hex:∃z,(bd b).w<=(bd b).F z t):bb 192 [.agg (eB b),.agg (eA ⟨ofQ (gY b t),ofQ t⟩)] (GX ((bd b).guess ((bd b).sg t) t)):=by
 have:=AN b hb ⟨ofQ (gY b t),ofQ t⟩ (ha:=Ev hb ht hex) J;rwa [<-kn hb hex]
def p2 (k:Nat):Rat:=((2^k:Nat):Int)
theorem mX (k:Nat):p2 (k+1)=p2 k+p2 k:=by
 rw[p2,p2,cn,show((2^k*2:Nat):Int)=((2^k:Nat):Int)+((2^k:Nat):Int) by omega]
 push_cast
 rfl
theorem ww {k:Nat}:HQ (p2 k) (k/16+1):=by
 refine⟨i5 ?_ J⟩;rw[fN,show(65536:Nat)=2^16 by decide,<-Nat.pow_mul];exact tt Y J
theorem Fj {b:Bd}{n:Nat}{w:Rat}:b.dbl (-1) (n+1) w=if 0<b.E (-w) then b.dbl (-1) n (w+w) else some w:=by
 rw[Bd.dbl];have e:(-1:Rat)*w = -w:=aW;rw[e];by_cases h:0<b.E (-w)
 .rw[if_pos h,if_pos aW]
 .rw[if_neg h,if_neg aW]
theorem Fm {b:Bd}{n:Nat}{w:Rat}:b.dbl 1 (n+1) w=if b.E w<0 then b.dbl 1 n (w+w) else some w:=by
 rw[Bd.dbl];have e:(1:Rat)*w=w:=aW;rw[e];by_cases h:b.E w<0
 .rw[if_pos h,if_pos aW]
 .rw[if_neg h,if_neg aW]
def Dy (N j:Nat)(t:Rat):Prop:=∃a:Int,t=(a:Rat)/((2^j:Nat):Int)/\a.natAbs<=2^(j+N)
theorem EO (j:Nat):(((2^j:Nat):Int))≠0:=by have:=Nat.two_pow_pos j;omega
theorem Dy.hq {N j:Nat}{t:Rat}(h:Dy N j t):HQ t ((j+N)/16+1):=by
 obtain⟨a,rfl,ha⟩:=h;have key:2^(j+N)<65536^((j+N)/16+1):=by
  rw[show(65536:Nat)=2^16 by decide,<-Nat.pow_mul];exact tt Y J
 have h2:2^j<=2^(j+N):=fb Y J;exact⟨i6 (EO j) J (by rw[fN];omega)⟩
theorem Dy.mid {N j:Nat}{lo hi:Rat}(h1:Dy N j lo)(h2:Dy N j hi):Dy N (j+1) ((lo+hi)/2):=by
 obtain⟨a,rfl,ha⟩:=h1;obtain⟨c,rfl,hc⟩:=h2;refine⟨a+c,?_,?_⟩
 .have e:(((2^(j+1):Nat):Int):Rat)=2*(((2^j:Nat):Int):Rat):=by
   rw[cn,show((2^j*2:Nat):Int)=2*((2^j:Nat):Int) by omega];push_cast;rfl
  have hn:(((2^j:Nat):Int):Rat)≠0:=by have:=EO j;exact_mod_cast this
  rw[e]
  push_cast
  generalize (((2^j:Nat):Int):Rat)=D0 at *
  grind
 .rw[show j+1+N=(j+N)+1 by omega,cn];omega
theorem Dy.up {N j:Nat}{t:Rat}(h:Dy N j t):Dy N (j+1) t:=by
 have:=Dy.mid h h;rwa [show(t+t)/2=t by grind]at this
noncomputable def f3 (b:Bd):List Rat->Option (Rat × Rat)
 |[]=>none
 |t::r=>match b.at1 t with
  |some x=>some x
  |none=>f3 b r
theorem Fy (b:Bd)(lo hi:Rat):b.fst3 lo hi=f3 b [0,lo,hi]:=by
 rw[Bd.fst3,f3,f3,f3,f3];cases b.at1 0<;>cases b.at1 lo<;>cases b.at1 hi<;>rfl
theorem AG (b:BR)(hb:b.Ok)(h40:∀t,(nD b.l t).length<=54)(hS:∀t,SortC (nD b.l t))(hex:∀t,∃z,(bd b).w<=(bd b).F z t){N:Nat}(hN:N<=150000){x:Rat × Rat}(hx:(bd b).eqQ N=some x):bb 120 [.agg (eB b)] (.agg (eA ⟨ofQ x.1,ofQ x.2⟩)):=by
 have w1:=bH 1 ⟨Y,Y⟩;have wm:=bH (-1) ⟨Y,Y⟩;rw[show(((1:Int):Int):Rat)=p2 0 from O]at w1;rw[show(((-1:Int):Int):Rat) = -p2 0 by rw[show p2 0=1 from O];rfl]at wm;rw[Bd.eqQ]at hx;obtain⟨Wl,hWl⟩:∃W,(bd b).dbl (-1) N 1=some W:=by
  cases h:(bd b).dbl (-1) N 1 with
  |none=>rw[h]at hx;cases hx
  |some W=>exact⟨W,rfl⟩
 obtain⟨Wh,hWh⟩:∃W,(bd b).dbl 1 N 1=some W:=by
  cases h:(bd b).dbl 1 N 1 with
  |none=>rw[hWl,h]at hx;cases hx
  |some W=>exact⟨W,rfl⟩
 rw[hWl,hWh]at hx;simp only at hx;have row:∀(t:Rat) (m:Nat),HQ t m->m<=20000->bb 190 [.agg (eB b),.agg (eR (ofQ t))] (.agg (eA ⟨ofQ (gY b t),ofQ t⟩))/\bb 189 [.agg (eB b),.agg (eA ⟨ofQ (gY b t),ofQ t⟩)] (.agg (eR (ofQ ((bd b).E t))))/\bb 188 [.agg (eR (ofQ ((bd b).E t)))] (I (sgn ((bd b).E t))):=fun t m ht hm =>
  ⟨wS b hb (h40 t) (hS t) (ofQ t) (ht:=Vq.ofQ (h:=ht)) J,vv hb ht hm (hex t),Bv hb ht hm (hex t)⟩
 refine ay Proofs.Tryz.func120 ?_;refine G w1 ?_;refine G wm ?_;refine G w1 ?_;refine H ?_;refine ao (fun k:Nat=>k<N/\(bd b).dbl (-1) (N-k) (p2 k)=some Wl) (fun k=>[(1,.ptr 1 1 0 0),(2,.ptr 2 1 0 0),(3,.ptr 3 1 0 0),(4,.ptr 4 1 0 0),(5,.ptr 5 1 0 0)])
  (fun k=>[(1,1,⟨128,6,[eB b],2⟩),(2,1,⟨43,8,[zN++zN],2⟩),(3,1,⟨41,4,[eR (ofQ (p2 k))],2⟩),(4,1,⟨41,4,[eR (ofQ (-p2 k))],2⟩),(5,1,⟨41,4,[eR (ofQ (p2 0))],2⟩)]) (fun k=>N-k) 0
  ⟨by
   rcases dP N with h|h;· subst h;cases hWl
   exact h,hWl⟩ ⟨O,O,O,O,O,O,O,O,O,O,bP⟩ ?_
 intro k s ⟨hk,hd⟩;obtain⟨j,hj⟩:∃j,N-k=j+1:=⟨N-k-1,J⟩;rw[hj,Fj]at hd;have hq:HQ (p2 k) 10000:=ww.mono J;have hqn:HQ (-p2 k) 10000:=@HQ.neg _ _ hq;obtain⟨r1,r2,r3⟩:=row (-p2 k) 10000 hqn Y;have hsg:=kf ((bd b).E (-p2 k));have n1:=dh (ofQ (p2 k)) (ofQ (p2 k)) (hx:=Vq.ofQ (h:=hq)) (hy:=Vq.ofQ (h:=hq)) Y Y;rw[<-mX]at n1;have hq1:HQ (p2 (k+1)) 10000:=ww.mono J;have n2:=IX (ofQ (p2 (k+1))) (hx:=Vq.ofQ (h:=hq1)) Y;rw[<-mX]at hd;refine dg 7 [19,20,21,22,23,24,25] ?_;refine G r1 ?_;refine G r2 ?_;refine aB r3 ?_;refine D ?_ ?_<;>intro h
 .have h1:=hsg.1 (bK h);clear h;rw[if_pos h1]at hd;refine G n1 ?_;refine G n2 ?_;refine H ?_;have hk1:k+1<N:=by
   rcases aT (k+1) N with h|h
   .exact h
   .rw[show j=0 by omega]at hd;cases hd
  have hd1:(bd b).dbl (-1) (N-(k+1)) (p2 (k+1))=some Wl:=by rw[show N-(k+1)=j by omega];exact hd
  exact⟨k+1,⟨hk1,hd1⟩,J,ak⟩
 .have h1:¬0<(bd b).E (-p2 k):=fun h2=>(cJ h) (hsg.2 h2);clear h;rw[if_neg h1]at hd;cases hd;clear hWl hj r1 r2 r3 hsg n1 n2 hq1;refine G w1 ?_;refine H ?_;refine ao (fun k':Nat=>k'<N/\(bd b).dbl 1 (N-k') (p2 k')=some Wh) (fun k'=>[(1,.ptr 1 1 0 0),(2,.ptr 2 1 0 0),(3,.ptr 3 1 0 0),(4,.ptr 4 1 0 0),(5,.ptr 5 1 0 0)])
   (fun k'=>[(1,1,⟨128,6,[eB b],2⟩),(2,1,⟨43,8,[zN++zN],2⟩),(3,1,⟨41,4,[eR (ofQ (p2 k'))],2⟩),(4,1,⟨41,4,[eR (ofQ (-p2 k))],2⟩),(5,1,⟨41,4,[eR (ofQ (p2 k'))],2⟩)]) (fun k'=>N-k') 0
   ⟨J,hWh⟩ ak ?_
  intro q s2 ⟨hk',hd⟩;obtain⟨j,hj⟩:∃j,N-q=j+1:=⟨N-q-1,J⟩;rw[hj,Fm]at hd;have hqq:HQ (p2 q) 10000:=ww.mono J;obtain⟨r1,r2,r3⟩:=row (p2 q) 10000 hqq Y;have hsg:=dU ((bd b).E (p2 q));have n1:=dh (ofQ (p2 q)) (ofQ (p2 q)) (hx:=Vq.ofQ (h:=hqq)) (hy:=Vq.ofQ (h:=hqq)) Y Y;rw[<-mX]at n1;rw[<-mX]at hd;refine dg 7 [32,33,34,35,36,37,38] ?_;refine G r1 ?_;refine G r2 ?_;refine aB r3 ?_;refine D ?_ ?_<;>intro h
  .have h1:=hsg.1 (bK h);clear h;rw[if_pos h1]at hd;refine G n1 ?_;refine H ?_;have hk1:q+1<N:=by
    rcases aT (q+1) N with h|h
    .exact h
    .rw[show j=0 by omega]at hd;cases hd
   have hd1:(bd b).dbl 1 (N-(q+1)) (p2 (q+1))=some Wh:=by rw[show N-(q+1)=j by omega];exact hd
   exact⟨q+1,⟨hk1,hd1⟩,J,ak⟩
  .have h1:¬(bd b).E (p2 q)<0:=fun h2=>(cJ h) (hsg.2 h2);clear h;rw[if_neg h1]at hd;cases hd;clear hWh hj r1 r2 r3 hsg n1;have w0:=bH 0 ⟨Y,Y⟩;rw[show(((0:Int)):Rat)=0 from O]at w0;rw[Fy]at hx;have hL:∀t∈[0,-p2 k,p2 q],HQ t 10000:=by
    intro t ht;simp at ht;rcases ht with rfl|rfl|rfl
    .exact HQ.zero.mono Y
    .exact hqn
    .exact hqq
   refine H ?_;refine cY [46] [3,4] aN ?_;refine G w0 ?_;refine H ?_;refine pK O O O (b8 1 O O O O O O O O O O O ak O ⟨nR O,?_⟩);refine H ?_;have hrows:([0,-p2 k,p2 q]:List Rat).map (fun t=>eR (ofQ t))=[eR (ofQ 0),eR (ofQ (-p2 k)),eR (ofQ (p2 q))]:=O;refine cA [(1,.ptr 1 1 0 0),(2,.ptr 2 1 0 0),(4,.ptr 4 1 0 0),(5,.ptr 5 1 0 0),(46,.als 46 ((s2.own 46).1+1) 0 3),(47,I 3),(48,I ((0:Nat):Int))]
    [(1,1,⟨128,6,[eB b],2⟩),(2,1,⟨43,8,[zN++zN],2⟩),(4,1,⟨41,4,[eR (ofQ (-p2 k))],2⟩),(5,1,⟨41,4,[eR (ofQ (p2 q))],2⟩),(46,(s2.own 46).1+1,⟨41,4,[eR (ofQ 0),eR (ofQ (-p2 k)),eR (ofQ (p2 q))],1⟩)]
    ak ?_
   generalize (s2.own 46).1+1=g;rw[<-hrows];intro s3;generalize hLL:([0,-p2 k,p2 q]:List Rat)=T3 at *
   have hT3:T3.length=3:=by rw[<-hLL];rfl
   refine ao (fun i:Nat=>i<=3/\(match f3 (bd b) (T3.drop i) with|some x=>some x|none=>(bd b).bis N (-p2 k) (p2 q))=some x) (fun i=>[(1,.ptr 1 1 0 0),(2,.ptr 2 1 0 0),(4,.ptr 4 1 0 0),(5,.ptr 5 1 0 0),(46,.als 46 g 0 3),(47,I 3),(48,I (i:Nat))])
    (fun i=>[(1,1,⟨128,6,[eB b],2⟩),(2,1,⟨43,8,[zN++zN],2⟩),(4,1,⟨41,4,[eR (ofQ (-p2 k))],2⟩),(5,1,⟨41,4,[eR (ofQ (p2 q))],2⟩),(46,g,⟨41,4,T3.map (fun t=>eR (ofQ t)),1⟩)]) (fun i=>3-i) 0
    ⟨aF _,hx⟩ ak ?_
   intro i s4 ⟨hi,hF⟩;refine D ?_ ?_<;>intro h
   .have hlt:i<3:=cP h;clear h;obtain⟨t,ht⟩:=aK (show i<T3.length by omega);have hrow:(T3.map (fun t=>eR (ofQ t)))[i]?=some (eR (ofQ t)):=by rw[aV,ht];rfl
    have htq:=hL t (bG ht);have hw:=im i;obtain⟨r1,r2,r3⟩:=row t 10000 htq Y;have hgs:=qf hb htq Y (hex t);have hdr:f3 (bd b) (T3.drop i)=match (bd b).at1 t with|some x=>some x|none=>f3 (bd b) (T3.drop (i+1)):=by
     obtain⟨hl1,h2⟩:=bD ht;rw[lR hl1,h2,f3]
    rw[hdr,Bd.at1,<-kn hb (hex t)]at hF;rw[<-kn hb (hex t)]at hgs;refine H ?_;refine kP O O O O O O O O O ?_;rw[aS,aG i];refine bX O O (c_ O O O hrow O) ?_;refine G r1 ?_;refine G r2 ?_;refine aB r3 ?_;refine H ?_;have hs0:=l_ ((bd b).E t);refine cO O ?_ ?_<;>intro h
    .have h1:=hs0.1 (bK h);clear h;rw[if_pos h1]at hF;simp only[aJ]at hF;subst hF;exact cy
    .have h1:¬(bd b).E t=0:=fun h2=>(cJ h) (hs0.2 h2);clear h;rw[if_neg h1]at hF;cases hgg:(bd b).guess (gY b t) t with
     |none =>
      rw[hgg]at hgs hF;simp only at hF;rw[GX]at hgs;refine G hgs ?_;refine H ?_;exact⟨i+1,⟨J,hF⟩,J,O,O,O,O,O,O,congrArg I hw,ak⟩
     |some y =>
      rw[hgg]at hgs hF;simp only[aJ]at hF;subst hF;rw[GX]at hgs;refine G hgs ?_;exact cy
   .have hie:i=3:=cG h;clear h;rw[hie,jZ J,f3]at hF;simp only at hF;have hd0:Dy N 0 (-p2 k):=⟨-((2^k:Nat):Int),by rw[p2];push_cast;grind,by rw[Int.natAbs_neg,Int.natAbs_natCast];exact Nat.pow_le_pow_right Y J⟩;have hd1:Dy N 0 (p2 q):=⟨((2^q:Nat):Int),by rw[p2];push_cast;grind,by rw[Int.natAbs_natCast];exact Nat.pow_le_pow_right Y J⟩;have w2:=bH 2 ⟨Y,Y⟩;rw[show(((2:Int)):Rat)=2 from O]at w2;have v2:Vq (ofQ 2) 2 4:=Vq.ofQ (h:=HQ.two);refine H ?_;refine ao (fun u:Nat × Rat × Rat=>u.1<=N/\(bd b).bis (N-u.1) u.2.1 u.2.2=some x/\Dy N u.1 u.2.1/\Dy N u.1 u.2.2) (fun u=>[(1,.ptr 1 1 0 0),(2,.ptr 2 1 0 0),(4,.ptr 4 1 0 0),(5,.ptr 5 1 0 0)])
     (fun u=>[(1,1,⟨128,6,[eB b],2⟩),(2,1,⟨43,8,[zN++zN],2⟩),(4,1,⟨41,4,[eR (ofQ u.2.1)],2⟩),(5,1,⟨41,4,[eR (ofQ u.2.2)],2⟩)]) (fun u=>N-u.1) (0,-p2 k,p2 q)
     ⟨aF _,hF,hd0,hd1⟩ ak ?_
    rintro⟨j,lo,hi⟩ s5 ⟨hj,hB,hlo,hhi⟩;simp only at hj hB hlo hhi;dsimp only;obtain⟨n,hn⟩:∃n,N-j=n+1:=by
     rcases dP (N-j) with h|h
     .rw[h]at hB;cases hB
     .exact⟨N-j-1,J⟩
    rw[hn,Bd.bis]at hB;have hm:=hlo.mid hhi;have hl2:=hlo.up;have hh2:=hhi.up;have ql:=hlo.hq;have qh:=hhi.hq;have qm:=hm.hq;have a1:=dh (ofQ lo) (ofQ hi) (hx:=Vq.ofQ (h:=ql)) (hy:=Vq.ofQ (h:=qh)) J J;have vs:Vq (ofQ (lo+hi)) (lo+hi) ((j+N)/16+1+((j+N)/16+1)+1):=Vq.ofQ (h:=@HQ.add _ _ _ _ ql qh);have a2:=wt (ofQ (lo+hi)) (ofQ 2) (hx:=vs) (hy:=v2) J Y Y;obtain⟨r1,r2,r3⟩:=row ((lo+hi)/2) _ qm J;have hgs:=qf hb qm J (hex ((lo+hi)/2));rw[Bd.at1,<-kn hb (hex ((lo+hi)/2))]at hB;rw[<-kn hb (hex ((lo+hi)/2))]at hgs;generalize (lo+hi)/2=t at *
    have hs0:=l_ ((bd b).E t);have hs1:=dU ((bd b).E t);refine G a1 ?_;refine G w2 ?_;refine G a2 ?_;refine G r1 ?_;refine G r2 ?_;refine aB r3 ?_;refine D ?_ ?_<;>intro h
    .have h1:=hs0.1 (bK h);clear h;rw[if_pos h1]at hB;simp only[aJ]at hB;subst hB;exact cy
    .have h1:¬(bd b).E t=0:=fun h2=>(cJ h) (hs0.2 h2);clear h;rw[if_neg h1]at hB;cases hgg:(bd b).guess (gY b t) t with
     |none =>
      rw[hgg]at hgs hB;simp only at hB;rw[GX]at hgs;refine G hgs ?_;refine D ?_ ?_<;>intro h
      .have h2:=hs1.1 (bK h);clear h;rw[if_pos h2]at hB;refine H ?_;exact⟨(j+1,t,hi),⟨by simp only;omega,by simp only;rw[show N-(j+1)=n by omega];exact hB,hm,hh2⟩,by simp only;omega,ak⟩
      .have h2:¬(bd b).E t<0:=fun h3=>(cJ h) (hs1.2 h3);clear h;rw[if_neg h2]at hB;refine H ?_;exact⟨(j+1,lo,t),⟨by simp only;omega,by simp only;rw[show N-(j+1)=n by omega];exact hB,hl2,hm⟩,by simp only;omega,ak⟩
     |some y =>
      rw[hgg]at hgs hB;simp only[aJ]at hB;subst hB;rw[GX]at hgs;refine G hgs ?_;exact cy
theorem u9 {l:List Int}{x:Int}(h:x∈l):x∈Lib.compact l:=by
 have key:∀n (hn:n<l.length),∃m,∃hm:m<l.length,l[m]=l[n]/\Lib.keeps l.toArray m=true:=by
  intro n
  induction n with
  |zero=>intro hn;exact⟨0,hn,rfl,by simp[Lib.keeps]⟩
  |succ n ih =>
   intro hn;by_cases he:l[n+1]=l[n]
   .obtain⟨m,hm,h1,h2⟩:=ih J;exact⟨m,hm,h1.trans he.symm,h2⟩
   .refine⟨n+1,hn,O,?_⟩;rw[Lib.keeps,decide_eq_true_eq];right;simp only[List.getElem!_toArray,gO];rw[getElem!_pos l (n+1) hn,getElem!_pos l n J];exact he
 obtain⟨n,hn,hx⟩:=List.mem_iff_getElem.1 h;obtain⟨m,hm,h1,h2⟩:=key n hn;rw[Lib.compact,Lib.compactUpTo];refine bF.2 ⟨m,mP.2 ⟨dG.2 hm,h2⟩,?_⟩;simp only[List.getElem!_toArray];rw[getElem!_pos l m hm,h1,hx]
theorem xX {l:List SR}{s:SR}(h:s∈l):s.x∈cN l:=by
 rw[cN];refine u9 ?_;have:s.x∈l.map (·.x):=bF.2 ⟨s,h,O⟩;exact(List.mergeSort_perm _ _).mem_iff.2 this
def oo (b:BR):Prop:=l8 b fi=false/\∀r∈ef b.l,l8 b r=false
theorem wI {b:BR}{A B:Rat}:qK b A B=true↔jN b.l A B b.l.length/\am (yT b.l A B) b.l.length<(b.w:Rat)*(A+B*b.a.val):=by
 rw[qK,@decide_eq_true_iff _ (Classical.propDecidable _)]
theorem yf {b:BR}{A B:Rat}(h:qK b A B=false):¬(jN b.l A B b.l.length/\am (yT b.l A B) b.l.length<(b.w:Rat)*(A+B*b.a.val)):=by
 intro h1;rw[wI.2 h1]at h;cases h
theorem FS:(ofQ ((1:Int):Rat)).val=1:=by rw[ofQ_val];rfl
theorem zero_val:(ofQ ((0:Int):Rat)).val=0:=by rw[ofQ_val];rfl
theorem lY {b:BR}(h:oo b):¬((∀i,i<(bd b).N->(bd b).lim i)/\am (bd b).cap (bd b).N<(bd b).w):=by
 have h1:=yf h.1;rw[show fi.z.val=1 from FS,show fi.t.val=0 from zero_val]at h1;intro⟨h2,h3⟩;refine h1 ⟨fun i hi _=>h2 i hi,?_⟩;have e:am (yT b.l 1 0) b.l.length=am (bd b).cap (bd b).N:=dc fun i hi=>by
  rw[yT,if_pos aW];show cI b.l i*(1+0*xI b.l i)=cI b.l i;grind
 rw[e];have h4:am (bd b).cap (bd b).N<(b.w:Rat):=h3;grind
theorem wb {b:BR}(hb:b.Ok)(h:oo b)(t:Rat):∃z,(bd b).Least z t :=
 ⟨_,n8 hb (Bd.enough (k9 hb) t (lY h))⟩
theorem Bf {b:BR}(h:oo b):(bd b).NoTip:=by
 intro s hs i0 hi0 hl hlt;have hx:=xX (bq (l:=b.l) hi0);have key:∀A B:Rat,(∀X:Rat,A+B*X=s*(X-(bd b).X i0))->qK b A B=true:=by
  intro A B hAB;refine wI.2 ⟨fun i hi hp=>hl i hi (by rw[hAB]at hp;exact hp),?_⟩;have e:am (yT b.l A B) b.l.length=am (fun i=>if 0<s*((bd b).X i-(bd b).X i0) then(bd b).cap i*(s*((bd b).X i-(bd b).X i0)) else 0) (bd b).N:=dc fun i hi=>by
   rw[yT,hAB];rfl
  rw[e,hAB];exact hlt
 rcases hs with rfl|rfl
 .have hm:yR (b.l.getD i0 dS).x∈ef b.l/\rG (b.l.getD i0 dS).x∈ef b.l:=⟨gN _ (bF.2 ⟨_,hx,O⟩),iq _ (bF.2 ⟨_,hx,O⟩)⟩;have h1:=h.2 _ hm.2;rw[l8,rG]at h1;simp only[ofQ_val]at h1;rw[key _ _ (fun X=>by
   show((-(b.l.getD i0 dS).x:Int):Rat)+((1:Int):Rat)*X=1*(X-((b.l.getD i0 dS).x:Rat))
   push_cast;grind)]at h1
  cases h1
 .have hm:yR (b.l.getD i0 dS).x∈ef b.l:=gN _ (bF.2 ⟨_,hx,O⟩);have h1:=h.2 _ hm;rw[l8,yR]at h1;simp only[ofQ_val]at h1;rw[key _ _ (fun X=>by
   show((b.l.getD i0 dS).x:Rat)+((-1:Int):Rat)*X = -1*(X-((b.l.getD i0 dS).x:Rat))
   push_cast;grind)]at h1
  cases h1
theorem CQ {b:BR}(hb:b.Ok){z t:Rat}{x:Rat × Rat}(h:(bd b).guess z t=some x):HQ x.1 20000/\HQ x.2 20000:=by
 have key:∀p,(bd b).Inc p z t->(bd b).tryP z t p=some x->HQ x.1 20000/\HQ x.2 20000:=by
  intro p hp h;rw[Bd.tryP]at h;split at h
  .cases h
  .rename_i d hd;split at h
   .cases h;exact zz hb hp hd
   .cases h
 rw[Bd.guess]at h;split at h
 .rename_i y hy;cases h;exact key _ (C5 hb z t) hy
 .exact key _ (G_ hb z t) h
theorem sP {b:BR}(hb:b.Ok){t:Rat}{m:Nat}(ht:HQ t m)(hm:m<=19000)(hex:∃z,(bd b).w<=(bd b).F z t){x:Rat × Rat}(h:(bd b).at1 t=some x):HQ x.1 24000/\HQ x.2 20000:=by
 rw[Bd.at1]at h;split at h
 .cases h;rw[<-kn hb hex];exact⟨(yx hb ht hex).mono J,ht.mono J⟩
 .have:=CQ hb h;exact⟨this.1.mono J,this.2⟩
theorem Hy {b:BR}(hb:b.Ok)(hex:∀t,∃z,(bd b).w<=(bd b).F z t){N:Nat}(hN:N<=150000){x:Rat × Rat}:∀(n j:Nat) (lo hi:Rat),n+j<=N->Dy N j lo->Dy N j hi->(bd b).bis n lo hi=some x->HQ x.1 24000/\HQ x.2 20000:=by
 intro n
 induction n with
 |zero=>intro j lo hi _ _ _ h;cases h
 |succ n ih =>
  intro j lo hi hj hlo hhi h;have hm:=hlo.mid hhi;rw[Bd.bis]at h;split at h
  .rename_i y hy;cases h;exact sP hb hm.hq J (hex _) hy
  .split at h
   .exact ih (j+1) _ _ J hm hhi.up h
   .exact ih (j+1) _ _ J hlo.up hm h
theorem yN (b:Bd)(s:Rat):∀(n k:Nat) (W:Rat),b.dbl s n (p2 k)=some W->∃m,m<n+k/\W=p2 m:=by
 intro n
 induction n with
 |zero=>intro k W h;cases h
 |succ n ih =>
  intro k W h;rw[Bd.dbl]at h;split at h
  .rw[<-mX]at h;obtain⟨m,h1,h2⟩:=ih (k+1) W h;exact⟨m,J,h2⟩
  .cases h;exact⟨k,J,O⟩
theorem IR {b:BR}(hb:b.Ok)(hex:∀t,∃z,(bd b).w<=(bd b).F z t){x:Rat × Rat}(h:(bd b).eqQ 150000=some x):HQ x.1 24000/\HQ x.2 20000:=by
 generalize hN:(150000:Nat)=N at h;rw[Bd.eqQ]at h;split at h
 .rename_i wl wh h1 h2;obtain⟨k,hk,rfl⟩:=yN _ _ _ 0 _ (show(bd b).dbl (-1) N (p2 0)=some wl from h1);obtain⟨q,hq,rfl⟩:=yN _ _ _ 0 _ (show(bd b).dbl 1 N (p2 0)=some wh from h2);have hqk:HQ (p2 k) 10000:=ww.mono J;have hqq:HQ (p2 q) 10000:=ww.mono J;have hqn:HQ (-p2 k) 10000:=@HQ.neg _ _ hqk;split at h
  .rename_i y hy;cases h;rw[Bd.fst3]at hy;split at hy
   .rename_i z hz;cases hy;exact sP hb HQ.zero Y (hex _) hz
   .split at hy
    .rename_i z hz;cases hy;exact sP hb hqn Y (hex _) hz
    .exact sP hb hqq Y (hex _) hy
  .refine Hy hb hex (N:=N) (show N<=150000 by omega) N 0 _ _ J ?_ ?_ h
   .exact⟨-((2^k:Nat):Int),by rw[p2];push_cast;grind,by rw[Int.natAbs_neg,Int.natAbs_natCast];exact Nat.pow_le_pow_right Y J⟩
   .exact⟨((2^q:Nat):Int),by rw[p2];push_cast;grind,by rw[Int.natAbs_natCast];exact Nat.pow_le_pow_right Y J⟩
 .cases h
theorem He (n:Nat):65536^n=2^(16*n):=by rw[show(65536:Nat)=2^16 by decide,<-Nat.pow_mul]
theorem IQ {b:BR}(hb:b.Ok)(hs:(bd b).SzT)(h:oo b):∃x,(bd b).eqQ 150000=some x/\(bd b).Bal x.1 x.2/\HQ x.1 24000/\HQ x.2 20000:=by
 have hex:∀t,∃z,(bd b).w<=(bd b).F z t:=fun t=>Bd.enough (k9 hb) t (lY h);obtain⟨m,hm⟩:∃m,m=3000:=⟨_,O⟩;have hK:65536^3000=2^(16*m):=by rw[<-hm];exact He m
 have hL:65536^(3000+3000+1)=2^(16*(m+m+1)):=by rw[<-hm];exact He (m+m+1)
 obtain⟨x,h1,h2⟩:=Bd.eq_some (k9 hb) hs (wb hb h) (Bf h) (n:=150000) hK hL J J;exact⟨x,h1,h2,IR hb hex h1⟩
def J0 (x:Int):SR:=⟨x,RR.zero,⟨[0],[ofQ ((2:Int):Rat)]⟩⟩
def JY (x:Int):SR:=⟨x,RR.zero,⟨[0,10],[ofQ ((5:Int):Rat),ofQ ((0:Int):Rat)]⟩⟩
def b1:BR:=⟨40,ofQ ((25:Int):Rat),[J0 0,J0 100]⟩
def b2:BR:=⟨80,ofQ ((75:Int):Rat),[JY 0,JY 100]⟩
theorem JB (z:Int)(h:i64 z):hq (z:Rat) 4:=(@HQ.int z (aL h.1 h.2)).ok
def Iz (s:SR):Prop:=i64 s.x/\∀z∈s.k.S,i64 z
def Iy (l:List SR):Prop:=∀s∈l,Iz s
theorem RR.sz.mono {x:RR}{n m:Nat}(h:x.sz n)(hm:n<=m):x.sz m:=⟨bz h.1 hm,bz h.2 hm⟩
section
variable {α:Type}
theorem uF (P M S:List α)(x y:α):((P++x::(M++y::S)).set P.length y).set (P.length+1+M.length) x=P++y::(M++x::S):=by
 rw[oZ _ _ (aH),fU,List.set_cons_zero,oZ _ _ J,show P.length+1+M.length-P.length=M.length+1 by omega,List.set_cons_succ,oZ _ _ (aH),fU,List.set_cons_zero]
theorem tX (P M S:List α)(x y:α):(P++x::(M++y::S))[P.length]?=some x:=by
 rw[dj (aH),fU];rfl
theorem tY (P M S:List α)(x y:α):(P++x::(M++y::S))[P.length+1+M.length]?=some y:=by
 rw[dj J,show P.length+1+M.length-P.length=M.length+1 by omega,oU,dj (aH),fU];rfl
def w9 (P X M Y0 S:List α)(k:Nat):List α:=P++Y0.take k++X.drop k++M++X.take k++Y0.drop k++S
theorem jD {l:List α}{k:Nat}{x:α}(hx:l[k]?=some x):l.take (k+1)=l.take k++[x]:=by rw[mL,hx];rfl
theorem gM {l:List α}{k:Nat}{x:α}(hx:l[k]?=some x):l.drop k=x::l.drop (k+1):=by
 obtain⟨hl,e⟩:=bD hx;rw[lR hl,e]
theorem yz {P X M Y0 S:List α}{k:Nat}{x y:α}(hx:X[k]?=some x)(hy:Y0[k]?=some y):w9 P X M Y0 S k=(P++Y0.take k)++x::((X.drop (k+1)++M++X.take k)++y::(Y0.drop (k+1)++S)):=by
 rw[w9,gM hx,gM hy];simp[bt]
theorem EF {P X M Y0 S:List α}{k:Nat}{x y:α}(hx:X[k]?=some x)(hy:Y0[k]?=some y):w9 P X M Y0 S (k+1)=(P++Y0.take k)++y::((X.drop (k+1)++M++X.take k)++x::(Y0.drop (k+1)++S)):=by
 rw[w9,jD hx,jD hy];simp[bt]
theorem EG (P X M Y0 S:List α):w9 P X M Y0 S 0=P++X++M++Y0++S:=by simp[w9]
theorem Gt {P X M Y0 S:List α}(h:X.length=Y0.length):w9 P X M Y0 S X.length=P++Y0++M++X++S:=by
 rw[w9,bM,iw,h,bM,iw];simp[bt]
theorem Gu {P X M Y0 S:List α}{k:Nat}{x y:α}(hx:X[k]?=some x)(hy:Y0[k]?=some y):(w9 P X M Y0 S k)[P.length+k]?=some x:=by
 have hk:k<Y0.length:=(bD hy).1;have h:=tX (P++Y0.take k) (X.drop (k+1)++M++X.take k) (Y0.drop (k+1)++S) x y;rw[yz hx hy];rwa [show(P++Y0.take k).length=P.length+k by simp;omega]at h
theorem Ja {P X M Y0:List α}{k:Nat}(hx:k<X.length)(hy:k<Y0.length):(P++Y0.take k).length+1+(X.drop (k+1)++M++X.take k).length=P.length+X.length+M.length+k:=by simp;omega
theorem Gw {P X M Y0 S:List α}{k:Nat}{x y:α}(hx:X[k]?=some x)(hy:Y0[k]?=some y):(w9 P X M Y0 S k)[P.length+X.length+M.length+k]?=some y:=by
 have h:=tY (P++Y0.take k) (X.drop (k+1)++M++X.take k) (Y0.drop (k+1)++S) x y;rw[yz hx hy];rwa [Ja (bD hx).1 (bD hy).1]at h
theorem Gv {P X M Y0 S:List α}{k:Nat}{x y:α}(hx:X[k]?=some x)(hy:Y0[k]?=some y):((w9 P X M Y0 S k).set (P.length+k) y).set (P.length+X.length+M.length+k) x=w9 P X M Y0 S (k+1):=by
 have hk:k<Y0.length:=(bD hy).1;have h:=uF (P++Y0.take k) (X.drop (k+1)++M++X.take k) (Y0.drop (k+1)++S) x y;rw[EF hx hy,<-h,yz hx hy,Ja (bD hx).1 hk,show(P++Y0.take k).length=P.length+k by simp;omega]
variable {key:α->Rat}
def gi (key:α->Rat)(l:List α):Prop:=l.Pairwise fun x y=>key x<=key y
theorem np {l:List α}{t:Nat}{v:α}(h:gi key l)(hv:l[t]?=some v):∀y∈l.drop t,key v<=key y:=by
 have h2:gi key (l.drop t):=List.Pairwise.sublist (tF t l) h;rw[gM hv]at h2 ⊢;intro y hy;rcases cw.1 hy with rfl|hy
 .exact du
 .exact(kA.1 h2).1 y hy
theorem nq {l:List α}{t:Nat}{v:α}(h:gi key l)(hv:l[t]?=some v):∀y∈l.take (t+1),key y<=key v:=by
 have h2:gi key (l.take (t+1)):=List.Pairwise.sublist (o_ (t+1) l) h;rw[jD hv]at h2 ⊢;intro y hy;rcases fe.1 hy with hy|hy
 .exact(lW.1 h2).2.2 y hy v (List.mem_singleton_self _)
 .rw[lQ.1 hy];exact du
def E0 (key:α->Rat)(A B:List α):Prop:=∀x∈A,∀y∈B,key x<=key y
theorem E8 {U V:List α}(hU:gi key U)(hV:gi key V){s t:Nat}(h:s=0\/t=V.length\/∃s' u v,s=s'+1/\U[s']?=some u/\V[t]?=some v/\key u<=key v):E0 key (U.take s) (V.drop t):=by
 intro x hx y hy;rcases h with rfl|rfl|⟨s',u,v,rfl,hu,hv,huv⟩
 .simp at hx
 .simp at hy
 .have h1:=nq hU hu x hx;have h2:=np hV hv y hy;grind
theorem pE {A B:List α}(hA:gi key A)(hB:gi key B)(h:E0 key A B):gi key (A++B):=lW.2 ⟨hA,hB,h⟩
theorem kj {l:List α}(h:gi key l)(n:Nat):gi key (l.take n):=List.Pairwise.sublist (o_ n l) h
theorem ki {l:List α}(h:gi key l)(n:Nat):gi key (l.drop n):=List.Pairwise.sublist (tF n l) h
theorem tW {U V W1 W2:List α}(hU:gi key U)(hV:gi key V){s t:Nat}(c1:E0 key (U.take s) (V.drop t))(c2:E0 key (V.take t) (U.drop s))(p1:W1.Perm (U.take s++V.take t))(p2:W2.Perm (U.drop s++V.drop t))(s1:gi key W1)(s2:gi key W2) :
  gi key (W1++W2)/\(W1++W2).Perm (U++V):=by
 have b1:E0 key (U.take s) (U.drop s):=by
  have h:=hU;rw[<-cD s U]at h;exact(lW.1 h).2.2
 have b2:E0 key (V.take t) (V.drop t):=by
  have h:=hV;rw[<-cD t V]at h;exact(lW.1 h).2.2
 refine⟨pE s1 s2 fun x hx y hy=>?_,?_⟩
 .have hx:=fe.1 (p1.mem_iff.1 hx);have hy:=fe.1 (p2.mem_iff.1 hy);rcases hx with hx|hx<;>rcases hy with hy|hy
  .exact b1 x hx y hy
  .exact c1 x hx y hy
  .exact c2 x hx y hy
  .exact b2 x hx y hy
 .refine(p1.append p2).trans ?_;have e:U++V=U.take s++(U.drop s++V):=by rw[<-bt,cD]
  rw[e,bt];refine List.Perm.append_left _ ?_;have e2:U.drop s++V=U.drop s++(V.take t++V.drop t):=by rw[cD]
  rw[e2,<-bt,<-bt];exact List.Perm.append_right _ List.perm_append_comm
theorem r6 {V:List α}(hV:gi key V){u:α}{t:Nat}(c1:∀y∈V.take t,key y<=key u)(c2:∀y∈V.drop t,key u<=key y):gi key (V.take t++u::V.drop t):=by
 have b2:E0 key (V.take t) (V.drop t):=by
  have h:=hV;rw[<-cD t V]at h;exact(lW.1 h).2.2
 refine pE (kj hV t) (kA.2 ⟨c2,ki hV t⟩) fun x hx y hy=>?_;rcases cw.1 hy with rfl|hy
 .exact c1 x hx
 .exact b2 x hx y hy
theorem wr (V:List α)(u:α)(t:Nat):(V.take t++u::V.drop t).Perm (u::V):=by
 refine tO.trans ?_;rw[cD]
end
theorem yA {K:St->Prop}{s:St}{d g N Q:Nat}{x y z n c:Operand}{tys:Array TypeId}{ty:TypeId}{pos:String}{af:Array Edge}(P X M Y0 S:List BN)(hXY:X.length=Y0.length)(hN:N=(P++X++M++Y0++S).length)(hN1:N<=1000)(hQ:Q=P.length+X.length+M.length)
  (hx:s.ev x=.als 5 g 0 N) (hy:s.ev y=I P.length) (hz:s.ev z=I Q) (hn:s.ev n=I X.length) (hc:s.ev c=.clo 302 [])
  (ho:FitO s [(5,g,⟨320,8,(P++X++M++Y0++S).map b_,1⟩)])
  (hK:∀s1:St,K (({ reg:=s.reg,own:=(s1.over [] [(5,g,⟨320,8,(P++Y0++M++X++S).map b_,1⟩)]).own }:St).putR d (.tup []))) :
  Sm Tryz.prog lay.get s ⟨some d,.call ⟨.value (.func 320),#[x,y,z,n,c],tys⟩,ty,pos,af,none⟩ K:=by
 refine cB dY O O Tryz.func320 O Y O O ?_;show PWP _ _ _ _ (bJ s (([x,y,z,n,c]:List Operand).map s.ev++[]));rw[show(([x,y,z,n,c]:List Operand).map s.ev++([]:List PV))=[.als 5 g 0 N,I P.length,I Q,I X.length,.clo 302 []] by simp[hx,hy,hz,hn,hc]];rw[show bJ s [.als 5 g 0 N,I P.length,I Q,I X.length,.clo 302 []]=bJ (s.over [] [(5,g,⟨320,8,(P++X++M++Y0++S).map b_,1⟩)]) [.als 5 g 0 N,I P.length,I Q,I X.length,.clo 302 []] by rw[Fit.over (l:=[]) ho]];have hlen:N=P.length+X.length+M.length+Y0.length+S.length:=by rw[hN];simp;omega
 refine H ?_;refine ao (fun k=>k<=X.length) (fun k=>[(0,.als 5 g 0 N),(1,I P.length),(2,I Q),(3,I X.length),(10,I (k:Nat))])
  (fun k=>[(5,g,⟨320,8,(w9 P X M Y0 S k).map b_,1⟩)]) (fun k=>X.length-k) 0 (aF _) ⟨O,O,O,O,O,by rw[EG];rfl,bP⟩ ?_
 intro k s1 hk;refine D ?_ ?_<;>intro h
 .have hlt:k<X.length:=cP h;clear h;obtain⟨p,hp⟩:=aK hlt;obtain⟨q,hq⟩:=aK (show k<Y0.length by omega);have hw1:IntKind.i64.wrap (((P.length:Nat):Int)+(k:Nat))=((P.length+k:Nat):Int):=by rw[wrap_i64 J J];omega
  have hw2:IntKind.i64.wrap (((Q:Nat):Int)+(k:Nat))=((Q+k:Nat):Int):=by rw[wrap_i64 J J];omega
  have hw:=im k;have hr1:((w9 P X M Y0 S k).map b_)[P.length+k]?=some (b_ p):=by rw[aV,Gu hp hq];rfl
  have hr2:((w9 P X M Y0 S k).map b_)[Q+k]?=some (b_ q):=by rw[aV,hQ,Gw hp hq];rfl
  refine H ?_;refine kO [] [5] 21 [21,22,23] [4,5,6,7] aN aN ?_;refine H ?_;rw[hw1,hw2];refine kP O O O O O O O O O ?_;rw[aS,aG (Q+k)];refine bX O O (c_ O O O hr2 O) ?_;refine H ?_;rw[hw1];refine kP O O O O O O O O O ?_;rw[aS,aG (P.length+k)];refine bX O O (c_ O O O hr1 O) ?_;refine H ?_;refine kP O O O O O O O O O ?_;rw[aS,aG (P.length+k)];refine H ?_;refine pK O O O (bW (kd':=1) O O O hr1 O O ak O O O O ⟨lp O,?_⟩);refine kP O O O O O O O O O ?_;rw[aS,aG (Q+k)];refine pK O O O (bW (kd':=1) O O O (row:=b_ q) (by
   show(((w9 P X M Y0 S k).map b_).set (P.length+k) _)[Q+k]? = _
   rw[cV J];exact hr2) O O ak O O O O ⟨lp O,?_⟩)
  refine H ?_;refine⟨k+1,hlt,J,O,O,O,O,congrArg I hw,?_,bP⟩;refine Eq.trans (b:=(g,some (Cont.mk 320 8 ((((w9 P X M Y0 S k).map b_).set (P.length+k) (b_ q)).set (Q+k) (b_ p)) 1))) O ?_;rw[<-fD,<-fD,hQ,Gv hp hq]
 .have hge:k=X.length:=cG h;clear h;rw[hge,Gt hXY];refine H ?_;exact eW O (hK s1)
def GS (P U V S:List BN)(q:List BN × List BN × List BN × List BN):Prop:=q.2.1≠[]/\q.2.2.1≠[]/\q.1.length+q.2.1.length=P.length+U.length/\q.1++q.2.2.1++q.2.1++q.2.2.2=P++V++U++S
def Bo (q:List BN × List BN × List BN × List BN):List BN:=q.1++q.2.1++q.2.2.1++q.2.2.2
theorem DR {P U V S:List BN}{q:List BN × List BN × List BN × List BN}(h:GS P U V S q):(Bo q).length=(P++U++V++S).length:=by
 have:=congrArg List.length h.2.2.2;simp only[Bo,bT]at *
 omega
theorem H_ {K:St->Prop}{s:St}{d g N:Nat}{x y z n c:Operand}{tys:Array TypeId}{ty:TypeId}{pos:String}{af:Array Edge}(P U V S:List BN)(hU:U≠[])(hV:V≠[])(hN:N=(P++U++V++S).length)(hN1:N<=1000)
  (hx:s.ev x=.als 5 g 0 N) (hy:s.ev y=I P.length) (hz:s.ev z=I (P.length+U.length:Nat)) (hn:s.ev n=I (P.length+U.length+V.length:Nat)) (hc:s.ev c=.clo 302 [])
  (ho:FitO s [(5,g,⟨320,8,(P++U++V++S).map b_,1⟩)])
  (hK:∀s1:St,K (({ reg:=s.reg,own:=(s1.over [] [(5,g,⟨320,8,(P++V++U++S).map b_,1⟩)]).own }:St).putR d (.tup []))) :
  Sm Tryz.prog lay.get s ⟨some d,.call ⟨.value (.func 319),#[x,y,z,n,c],tys⟩,ty,pos,af,none⟩ K:=by
 have hlen:N=P.length+U.length+V.length+S.length:=by rw[hN];simp;omega
 generalize hm:P.length+U.length=m at *
 refine cB dY O O Tryz.func319 O Y O O ?_;show PWP _ _ _ _ (bJ s (([x,y,z,n,c]:List Operand).map s.ev++[]));rw[show(([x,y,z,n,c]:List Operand).map s.ev++([]:List PV))=[.als 5 g 0 N,I P.length,I m,I (m+V.length:Nat),.clo 302 []] by simp[hx,hy,hz,hn,hc]];rw[show bJ s [.als 5 g 0 N,I P.length,I m,I (m+V.length:Nat),.clo 302 []]=bJ (s.over [] [(5,g,⟨320,8,(P++U++V++S).map b_,1⟩)]) [.als 5 g 0 N,I P.length,I m,I (m+V.length:Nat),.clo 302 []] by rw[Fit.over (l:=[]) ho]];have hwa:IntKind.i64.wrap (((m:Nat):Int)-(P.length:Nat))=(U.length:Nat):=by rw[wrap_i64 J J];omega
 have hwb:IntKind.i64.wrap (((m+V.length:Nat):Int)-(m:Nat))=(V.length:Nat):=by rw[wrap_i64 J J];omega
 refine H ?_;rw[hwa];refine H ?_;rw[hwb];refine ao (GS P U V S) (fun q=>[(0,.als 5 g 0 N),(2,I m),(4,.clo 302 []),(10,I q.2.1.length),(11,I q.2.2.1.length)])
  (fun q=>[(5,g,⟨320,8,(Bo q).map b_,1⟩)]) (fun q=>q.2.1.length+q.2.2.1.length) (P,U,V,S) ⟨hU,hV,O,O⟩ ak ?_
 rintro⟨A,X,Y0,B⟩ s1 hq;have hql:=DR hq;obtain⟨hX,hY,hAm,heq⟩:=hq;simp only at hX hY hAm heq;have hX0:0<X.length:=o7.2 hX;have hY0:0<Y0.length:=o7.2 hY;rw[hm]at hAm;simp only[Bo]at hql;rw[<-hN]at hql;have hql2:N=A.length+X.length+Y0.length+B.length:=by rw[<-hql];simp;omega
 dsimp only[Bo];refine D ?_ ?_<;>intro h
 .have hne:X.length≠Y0.length:=by
   intro e;simp[e]at h
  clear h;refine D ?_ ?_<;>intro h
  .have hgt:Y0.length<X.length:=cP h;clear h;have hw1:IntKind.i64.wrap (((m:Nat):Int)-(X.length:Nat))=(A.length:Nat):=by rw[wrap_i64 J J];omega
   have hw2:IntKind.i64.wrap (((X.length:Nat):Int)-(Y0.length:Nat))=((X.drop Y0.length).length:Nat):=by rw[wrap_i64 J J,fR];omega
   have htl:(X.take Y0.length).length=Y0.length:=by rw[bI];omega
   have hsp:A++X++Y0++B=A++X.take Y0.length++X.drop Y0.length++Y0++B:=by
    rw[bt A (X.take _),cD]
   have hmQ:m=A.length+(X.take Y0.length).length+(X.drop Y0.length).length:=by rw[htl,fR];omega
   rw[hsp]
   (refine dN 4 ?_;refine aD 7 ?_)
   refine H ?_;refine aU O (yA (N:=N) (Q:=m) A (X.take Y0.length) (X.drop Y0.length) Y0 B htl (by rw[<-hsp];exact hql.symm) hN1 hmQ O (congrArg I hw1) O (by rw[htl];rfl) O ⟨O,bP⟩ fun s2=>?_);refine aE ?_;refine H ?_;refine⟨(A++Y0,X.drop Y0.length,X.take Y0.length,B),⟨?_,?_,?_,?_⟩,?_,O,O,O,congrArg I hw2,by rw[htl];rfl,O,bP⟩
   .intro e;have:=congrArg List.length e;rw[fR]at this;simp at this;omega
   .intro e;have e2:(X.take Y0.length).length=0:=by rw[show X.take Y0.length=[] from e];rfl
    omega
   .have hd:(X.drop Y0.length).length=X.length-Y0.length:=fR;show(A++Y0).length+(X.drop Y0.length).length=P.length+U.length;rw[bT,hd,hm];omega
   .simp only;rw[<-heq];have e:X.take Y0.length++X.drop Y0.length=X:=cD _ _
    calc A++Y0++X.take Y0.length++X.drop Y0.length++B=A++Y0++(X.take Y0.length++X.drop Y0.length)++B:=by simp[bt]
     _=A++Y0++X++B:=by rw[e]
   .have hd:(X.drop Y0.length).length=X.length-Y0.length:=fR;show(X.drop Y0.length).length+(X.take Y0.length).length<X.length+Y0.length;omega
  .have hlt:X.length<Y0.length:=cG h;clear h;obtain⟨w,hw⟩:∃w,w=Y0.length-X.length:=⟨_,O⟩;have hw1:IntKind.i64.wrap (((m:Nat):Int)-(X.length:Nat))=(A.length:Nat):=by rw[wrap_i64 J J];omega
   have hw3:IntKind.i64.wrap (((m:Nat):Int)+(Y0.length:Nat))=((m+Y0.length:Nat):Int):=by rw[wrap_i64 J J];omega
   have hw4:IntKind.i64.wrap (((m+Y0.length:Nat):Int)-(X.length:Nat))=((m+w:Nat):Int):=by rw[wrap_i64 J J];omega
   have htl:(Y0.take w).length=w:=by rw[bI];omega
   have hdl:(Y0.drop w).length=X.length:=by rw[fR];omega
   have hw2:IntKind.i64.wrap (((Y0.length:Nat):Int)-(X.length:Nat))=((Y0.take w).length:Nat):=by rw[wrap_i64 J J,htl];omega
   have hsp:A++X++Y0++B=A++X++Y0.take w++Y0.drop w++B:=by
    rw[bt (A++X) (Y0.take _),cD]
   rw[hsp]
   (refine dN 6 ?_;refine aD 11 ?_)
   refine H ?_;rw[hw3];refine H ?_;refine aU O (yA (N:=N) (Q:=m+w) A X (Y0.take w) (Y0.drop w) B hdl.symm (by rw[<-hsp];exact hql.symm) hN1 (by rw[htl];omega) O (congrArg I hw1) (congrArg I hw4) O O ⟨O,bP⟩ fun s2=>?_);refine aE ?_;refine H ?_;refine⟨(A,Y0.drop w,Y0.take w,X++B),⟨?_,?_,?_,?_⟩,?_,O,O,O,by rw[hdl];rfl,congrArg I hw2,?_,bP⟩
   .intro e;have e2:(Y0.drop w).length=0:=by rw[show Y0.drop w=[] from e];rfl
    omega
   .intro e;have e2:(Y0.take w).length=0:=by rw[show Y0.take w=[] from e];rfl
    omega
   .show A.length+(Y0.drop w).length=P.length+U.length;rw[hdl,hm];omega
   .simp only;rw[<-heq];have e:Y0.take w++Y0.drop w=Y0:=cD _ _
    calc A++Y0.take w++Y0.drop w++(X++B)=A++(Y0.take w++Y0.drop w)++X++B:=by simp[bt]
     _=A++Y0++X++B:=by rw[e]
   .show(Y0.drop w).length+(Y0.take w).length<X.length+Y0.length;omega
   .dsimp only[Bo];rw[show A++Y0.drop w++Y0.take w++(X++B)=A++Y0.drop w++Y0.take w++X++B by simp[bt]];rfl
 .have he:X.length=Y0.length:=by
   have h2:((X.length:Nat):Int)=((Y0.length:Nat):Int):=by simpa using h
   omega
  clear h;have hw1:IntKind.i64.wrap (((m:Nat):Int)-(X.length:Nat))=(A.length:Nat):=by rw[wrap_i64 J J];omega
  have hsp:A++X++Y0++B=A++X++[]++Y0++B:=aj;rw[hsp]
  (refine dN 8 ?_;refine aD 7 ?_)
  refine H ?_;refine aU O (yA (N:=N) (Q:=m) A X [] Y0 B he (by rw[<-hsp];exact hql.symm) hN1 aX O (congrArg I hw1) O O O ⟨O,bP⟩ fun s2=>?_);refine aE ?_;refine H ?_;rw[show A++Y0++[]++X++B=P++V++U++S by rw[cu];exact heq];exact eW O (hK s2)
section
variable {α:Type}{key:α->Rat}
def dA (key:α->Rat)(c:Rat)(l:List α):List α:=l.filter fun x=>decide (key x=c)
theorem aY (c:Rat)(A B:List α):dA key c (A++B)=dA key c A++dA key c B:=List.filter_append ..
theorem fj {c:Rat}{a:α}(l:List α)(h:key a=c):dA key c (a::l)=a::dA key c l:=List.filter_cons_of_pos (by simpa using h)
theorem ia {c:Rat}{a:α}(l:List α)(h:key a≠c):dA key c (a::l)=dA key c l:=List.filter_cons_of_neg (by simpa using h)
theorem eZ {c:Rat}{a:α}{l:List α}:a∈dA key c l↔a∈l/\key a=c:=by rw[dA,mP,decide_eq_true_eq]
theorem CE:∀ {A B:List α},gi key A->gi key B->(∀c,dA key c A=dA key c B)->A=B
 |[],[],_,_,_=>rfl
 |[],b::B,_,_,h=>by
  have:b∈dA key (key b) ([]:List α):=by rw[h];exact eZ.2 ⟨fO ..,O⟩
  cases this
 |a::A,[],_,_,h=>by
  have:a∈dA key (key a) ([]:List α):=by rw[<-h];exact eZ.2 ⟨fO ..,O⟩
  cases this
 |a::A,b::B,hA,hB,h=>by
  obtain⟨a1,a2⟩:=kA.1 hA;obtain⟨b1,b2⟩:=kA.1 hB;have ha:a∈b::B:=(eZ.1 (by rw[<-h];exact eZ.2 ⟨fO ..,O⟩:a∈dA key (key a) (b::B))).1;have hb:b∈a::A:=(eZ.1 (by rw[h];exact eZ.2 ⟨fO ..,O⟩:b∈dA key (key b) (a::A))).1;have k1:key b<=key a:=by
   rcases cw.1 ha with e|e
   .rw[e];exact du
   .exact b1 a e
  have k2:key a<=key b:=by
   rcases cw.1 hb with e|e
   .rw[e];exact du
   .exact a1 b e
  have hk:key b=key a:=Rat.le_antisymm k1 k2;have h0:=h (key a);rw[fj _ O,fj _ hk]at h0;have hab:a=b:=(List.cons.inj h0).1;subst hab;congr 1;refine CE a2 b2 fun c=>?_;have hc:=h c;by_cases e:key a=c
  .rw[fj _ e,fj _ e]at hc;exact(List.cons.inj hc).2
  .rwa [ia _ e,ia _ e]at hc
def Iw (key:α->Rat)(A B:List α):Prop:=∀x∈A,∀y∈B,key x<key y
theorem Fw {A B:List α}(h:Iw key A B)(c:Rat):dA key c A=[]\/dA key c B=[]:=by
 rcases cx (dA key c A=[]) with e|e
 .exact .inl e
 .refine .inr (y8.2 fun y hy=>?_);obtain⟨x,hx⟩:=List.exists_mem_of_ne_nil _ e;obtain⟨hx1,hx2⟩:=eZ.1 hx;obtain⟨hy1,hy2⟩:=eZ.1 hy;have:=h x hx1 y hy1;rw[hx2,hy2]at this;exact absurd this (Rat.lt_irrefl)
theorem p_ {A B:List α}(h:Iw key A B)(c:Rat):dA key c (A++B)=dA key c (B++A):=by
 rw[aY,aY];rcases Fw h c with e|e<;>rw[e]<;>simp
theorem xH {U V W1 W2:List α}{s t:Nat}(c2:Iw key (V.take t) (U.drop s))(p1:∀c,dA key c W1=dA key c (U.take s++V.take t))(p2:∀c,dA key c W2=dA key c (U.drop s++V.drop t))(c:Rat):dA key c (W1++W2)=dA key c (U++V):=by
 have h:=p_ c2 c;rw[aY,aY]at h;have eU:dA key c U=dA key c (U.take s)++dA key c (U.drop s):=by rw[<-aY,cD]
 have eV:dA key c V=dA key c (V.take t)++dA key c (V.drop t):=by rw[<-aY,cD]
 rw[aY,p1,p2,aY,aY,aY,eU,eV,bt,<-bt (dA key c (V.take t)),h];simp only[bt]
end
variable {α:Type}{key:α->Rat}
theorem CG {c:Rat}{l:List α}(h:∀x∈l,key x≠c):dA key c l=[]:=y8.2 fun x hx=>h x (eZ.1 hx).1 (eZ.1 hx).2
theorem C7 (l:List α)(x:α)(c:Rat):dA key c (nL key l x)=dA key c (l++[x]):=by
 obtain⟨h1,h2⟩:=nT key l x l.length (aH);rw[nL,dC,Bi];generalize oK key l x l.length=k at *
 have e:dA key c l=dA key c (l.take k)++dA key c (l.drop k):=by rw[<-aY,cD]
 rw[aY,aY,e];by_cases hx:key x=c
 .have hd:dA key c (l.drop k)=[]:=CG fun y hy hyc=>by
   obtain⟨q,hq⟩:=j1.1 hy;rw[cq]at hq;have:=h2 (k+q) y J (bD hq).1 hq;rw[hx,hyc]at this;exact absurd this Rat.lt_irrefl
  rw[fj _ hx,hd,fj _ hx];simp[dA]
 .rw[ia _ hx,ia _ hx];simp[dA]
theorem n7 (l:List α)(c:Rat):dA key c (da key l)=dA key c l:=by
 have:∀(l acc:List α),dA key c (l.foldl (nL key) acc)=dA key c (acc++l):=by
  intro l
  induction l with
  |nil=>intro acc;rw[cu];rfl
  |cons x l ih =>
   intro acc;rw[iz,ih,aY,C7,aY,aY,show x::l=[x]++l from O,aY];simp only[bt]
 have h:=this l [];rwa [kE]at h
theorem BG {W l:List α}(hs:gi key W)(hf:∀c,dA key c W=dA key c l):W=da key l :=
 CE hs (gH key l) fun c=>by rw[hf,n7]
end Go.Pv
set_option maxHeartbeats 2000000
namespace Go.Pv
attribute [local irreducible] PWP POps PQuiet PSem XThen XBlock RetPost InlPost
open Go.Proofs
theorem Jv {P U V S:List BN}{i:Nat}{u:BN}(h:U[i]?=some u):((P++U++V++S).map b_)[P.length+i]?=some (b_ u):=by
 have hi:=(bD h).1;rw[aV,bt,bt,dj J,show P.length+i-P.length=i by omega,fG J,h];rfl
theorem Jw {P U V S:List BN}{i:Nat}{v:BN}(h:V[i]?=some v):((P++U++V++S).map b_)[P.length+U.length+i]?=some (b_ v):=by
 have hi:=(bD h).1;rw[aV,bt,dj (by rw[bT];omega),show P.length+U.length+i-(P++U).length=i by rw[bT];omega,fG J,h];rfl
theorem zo (X Y0:Nat)(h:X+Y0<=4000):IntKind.i64.wrap (IntKind.u64.wrap (IntKind.i64.wrap (((X:Nat):Int)+((Y0:Nat):Int)))/2^Int.toNat 1)=(((X+Y0)/2:Nat):Int):=by
 rw[wrap_i64 (n:=((X:Nat):Int)+((Y0:Nat):Int)) J J,wrap_u64 J J,show((2:Int)^Int.toNat 1)=2 by decide,wrap_i64 J J];omega
theorem Dw {V:List BN}{u:BN}{t:Nat}(h:∀y∈V.take t,bO y<bO u)(c:Rat):dA bO c (V.take t++u::V.drop t)=dA bO c ([u]++V):=by
 have e:V.take t++u::V.drop t=(V.take t++[u])++V.drop t:=aj;rw[e,aY,p_ (fun x hx y hy=>by rw[lQ.1 hy];exact h x hx),<-aY,bt,cD]
theorem Dx {U:List BN}{v:BN}{t:Nat}(h:∀y∈U.drop t,bO v<bO y)(c:Rat):dA bO c (U.take t++v::U.drop t)=dA bO c (U++[v]):=by
 have e:U.take t++v::U.drop t=U.take t++([v]++U.drop t):=aj;rw[e,aY,p_ (fun x hx y hy=>by rw[lQ.1 hx];exact h y hy),<-aY,<-bt,cD]
def gG (P V:List BN)(u:BN)(S:List BN)(r:Nat):List BN:=P++(V.take r++u::V.drop r)++S
theorem pC {P V S:List BN}{u v:BN}{r:Nat}(h:V[r]?=some v):gG P V u S r=(P++V.take r)++u::([]++v::(V.drop (r+1)++S)):=by
 rw[gG,gM h];simp[bt]
theorem kQ {P V S:List BN}{u v:BN}{r:Nat}(h:V[r]?=some v):gG P V u S (r+1)=(P++V.take r)++v::([]++u::(V.drop (r+1)++S)):=by
 rw[gG,jD h];simp[bt]
theorem wK {P V S:List BN}{u v:BN}{r:Nat}(h:V[r]?=some v):((gG P V u S r).map b_)[P.length+r]?=some (b_ u):=by
 have hr:=(bD h).1;have e:=tX (P++V.take r) [] (V.drop (r+1)++S) u v;rw[show(P++V.take r).length=P.length+r by simp;omega,<-pC h]at e;rw[aV,e];rfl
theorem wL {P V S:List BN}{u v:BN}{r:Nat}(h:V[r]?=some v):((gG P V u S r).map b_)[P.length+r+1]?=some (b_ v):=by
 have hr:=(bD h).1;have e:=tY (P++V.take r) [] (V.drop (r+1)++S) u v;rw[show(P++V.take r).length=P.length+r by simp;omega,<-pC h]at e;rw[aV,show P.length+r+1=P.length+r+1+([]:List BN).length from O,e];rfl
theorem DU {P V S:List BN}{u v:BN}{r:Nat}(h:V[r]?=some v):((gG P V u S r).set (P.length+r) v).set (P.length+r+1) u=gG P V u S (r+1):=by
 have hr:=(bD h).1;have e:=uF (P++V.take r) [] (V.drop (r+1)++S) u v;rw[show(P++V.take r).length=P.length+r by simp;omega,<-pC h,<-kQ h]at e;exact e
theorem yk {P V S:List BN}{u v:BN}{r:Nat}(h:V[r]?=some v):((gG P V u S (r+1)).set (P.length+r+1) v).set (P.length+r) u=gG P V u S r:=by
 have hr:=(bD h).1;have e:=uF (P++V.take r) [] (V.drop (r+1)++S) v u;rw[show(P++V.take r).length=P.length+r by simp;omega,<-pC h,<-kQ h]at e;rw[List.set_comm _ _ J];exact e
theorem sw {P V S:List BN}{u v:BN}{r:Nat}(h:V[r]?=some v):((gG P V u S (r+1)).map b_)[P.length+r]?=some (b_ v):=by
 have hr:=(bD h).1;have e:=tX (P++V.take r) [] (V.drop (r+1)++S) v u;rw[show(P++V.take r).length=P.length+r by simp;omega,<-kQ h]at e;rw[aV,e];rfl
theorem sy {P V S:List BN}{u v:BN}{r:Nat}(h:V[r]?=some v):((gG P V u S (r+1)).map b_)[P.length+r+1]?=some (b_ u):=by
 have hr:=(bD h).1;have e:=tY (P++V.take r) [] (V.drop (r+1)++S) v u;rw[show(P++V.take r).length=P.length+r by simp;omega,<-kQ h]at e;rw[aV,show P.length+r+1=P.length+r+1+([]:List BN).length from O,e];rfl
theorem vJ {L:b9}{fn:Func}{K:St->PV->Prop}{s:St}(h:fn.results.toList=[])(hk:K s (.tup [])):InlPost L fn K .ret s:=by
 unfold InlPost;exact⟨[],True,by rw[h];rfl,trivial,hk⟩
theorem Gx {K:St->Prop}{s:St}{d g N:Nat}{x y z n c:Operand}{tys:Array TypeId}{ty:TypeId}{pos:String}{af:Array Edge}(P:List BN)(u:BN)(V S:List BN)(hV:gi bO V)(hs:∀p∈u::V,p.at'.sz 7000000)(hN:N=(P++[u]++V++S).length)(hN1:N<=1000)
  (hx:s.ev x=.als 5 g 0 N) (hy:s.ev y=I P.length) (hz:s.ev z=I (P.length+1:Nat)) (hn:s.ev n=I (P.length+1+V.length:Nat)) (hc:s.ev c=.clo 302 [])
  (ho:FitO s [(5,g,⟨320,8,(P++[u]++V++S).map b_,1⟩)])
  (hK:∀(s1:St) (W:List BN),W.Perm ([u]++V)->(∀c,dA bO c W=dA bO c ([u]++V))->gi bO W->K (({ reg:=s.reg,own:=(s1.over [] [(5,g,⟨320,8,(P++W++S).map b_,1⟩)]).own }:St).putR d (.tup []))) :
  Sm Tryz.prog lay.get s ⟨some d,.call ⟨.value (.func 318),#[x,y,z,n,c],tys⟩,ty,pos,af,none⟩ K:=by
 have hlen:N=P.length+1+V.length+S.length:=by rw[hN];simp;omega
 generalize hm:P.length+1=m at *
 refine cB dY O O Tryz.func318 O Y O O ?_;show PWP _ _ _ _ (bJ s (([x,y,z,n,c]:List Operand).map s.ev++[]));rw[show(([x,y,z,n,c]:List Operand).map s.ev++([]:List PV))=[.als 5 g 0 N,I P.length,I m,I (m+V.length:Nat),.clo 302 []] by simp[hx,hy,hz,hn,hc]];rw[show bJ s [.als 5 g 0 N,I P.length,I m,I (m+V.length:Nat),.clo 302 []]=bJ (s.over [] [(5,g,⟨320,8,(P++[u]++V++S).map b_,1⟩)]) [.als 5 g 0 N,I P.length,I m,I (m+V.length:Nat),.clo 302 []] by rw[Fit.over (l:=[]) ho]];have hwa:IntKind.i64.wrap (((m:Nat):Int)-(P.length:Nat))=1:=by rw[wrap_i64 J J];omega
 refine H ?_;rw[hwa];refine H ?_;refine ao (fun q:Nat × Nat=>q.1<=q.2/\q.2<=V.length/\(∀v∈V.take q.1,bO v<bO u)/\(∀v∈V.drop q.2,bO u<=bO v)) (fun q=>[(0,.als 5 g 0 N),(1,I P.length),(4,.clo 302 []),(10,I (m+q.1:Nat)),(11,I (m+q.2:Nat))])
  (fun q=>[(5,g,⟨320,8,(P++[u]++V++S).map b_,1⟩)]) (fun q=>q.2-q.1) (0,V.length) ⟨aF _,aH,aj,aj⟩ ak ?_
 rintro⟨p,q⟩ s1 ⟨hpq,hqV,h1,h2⟩;simp only at hpq hqV h1 h2;dsimp only;refine D ?_ ?_<;>intro h
 .have hlt:p<q:=cP h;clear h;obtain⟨f,hf⟩:∃f,f=(p+q)/2:=⟨_,O⟩;obtain⟨v,hv⟩:=aK (show f<V.length by omega);have hmid:IntKind.i64.wrap (IntKind.u64.wrap (IntKind.i64.wrap (((m+p:Nat):Int)+((m+q:Nat):Int)))/2^Int.toNat 1)=((m+f:Nat):Int):=by
   rw[zo _ _ J];omega
  have hr1:((P++[u]++V++S).map b_)[m+f]?=some (b_ v):=by rw[<-hm];exact Jw (U:=[u]) hv
  have hr2:((P++[u]++V++S).map b_)[P.length]?=some (b_ u):=Jv (U:=[u]) (i:=0) O;have hw:IntKind.i64.wrap (((m+f:Nat):Int)+1)=((m+(f+1):Nat):Int):=by rw[wrap_i64 J J];omega
  refine H ?_;rw[hmid];refine nb 11 [40,41,42,43,44,45,46,47,48,49,50] aN ?_;refine H ?_;refine kP O O O O O O O O O ?_;rw[aS,aG (m+f)];refine bX O O (c_ O O O hr1 O) ?_;refine H ?_;refine kP O O O O O O O O O ?_;rw[aS,aG P.length];refine bX O O (c_ O O O hr2 O) ?_;refine H ?_;refine bX O O (pA O (mr (hs v (ir _ (bG hv))) (hs u (fO ..))) O ak O O) ?_;refine D ?_ ?_<;>intro h
  .have hb:=h;have hlt2:bO v<bO u:=by have:=(dU _).1 (bK hb);grind
   clear hb h;refine H ?_;refine⟨(f+1,q),⟨by simp only;omega,hqV,fun y hy=>?_,h2⟩,by simp only;omega,O,O,O,congrArg I hw,ak⟩;have:=nq hV hv y hy;grind
  .have hb:=h;have hge2:bO u<=bO v:=by
    have h9:=cJ hb;rw[dU]at h9;grind
   clear hb h;refine H ?_;refine⟨(p,f),⟨by simp only;omega,by simp only;omega,h1,fun y hy=>?_⟩,by simp only;omega,ak⟩;have:=np hV hv y hy;grind
 .have he:p=q:=cG h;clear h;subst he;have hwp:IntKind.i64.wrap (((m+p:Nat):Int)-1)=((P.length+p:Nat):Int):=by rw[wrap_i64 J J];omega
  have hr0:P++[u]++V++S=gG P V u S 0:=by rw[gG];simp
  refine H ?_;refine ao (fun r=>r<=p) (fun r=>[(0,.als 5 g 0 N),(10,I (m+p:Nat)),(13,I (P.length+r:Nat))]) (fun r=>[(5,g,⟨320,8,(gG P V u S r).map b_,1⟩)]) (fun r=>p-r) 0 (aF _) ⟨O,O,O,by rw[<-hr0];rfl,bP⟩ ?_;intro r s2 hr;refine H ?_;rw[hwp];refine cO O ?_ ?_<;>intro h
  .have hrp:r<p:=cP h;clear h;obtain⟨v,hv⟩:=aK (show r<V.length by omega);have hw:IntKind.i64.wrap (((P.length+r:Nat):Int)+1)=((P.length+r+1:Nat):Int):=by rw[wrap_i64 J J];omega
   refine H ?_;refine kO [] [5] 15 [15,16,17] [2,3,4] aN aN ?_;refine H ?_;rw[hw];refine kP O O O O O O O O O ?_;rw[aS,aG (P.length+r+1)];refine bX O O (c_ O O O (wL hv) O) ?_;refine H ?_;refine kP O O O O O O O O O ?_;rw[aS,aG (P.length+r)];refine bX O O (c_ O O O (wK hv) O) ?_;refine H ?_;refine kP O O O O O O O O O ?_;rw[aS,aG (P.length+r)];refine H ?_;refine pK O O O (bW (kd':=1) O O O (wK hv) O O ak O O O O ⟨lp O,?_⟩);refine kP O O O O O O O O O ?_;rw[aS,aG (P.length+r+1)];refine pK O O O (bW (kd':=1) O O O (row:=b_ v) (by
    show(((gG P V u S r).map b_).set (P.length+r) _)[P.length+r+1]? = _
    rw[cV J];exact wL hv) O O ak O O O O ⟨lp O,?_⟩)
   refine H ?_;refine⟨r+1,hrp,J,O,O,congrArg I hw,?_,bP⟩;refine Eq.trans (b:=(g,some (Cont.mk 320 8 ((((gG P V u S r).map b_).set (P.length+r) (b_ v)).set (P.length+r+1) (b_ u)) 1))) O ?_;rw[<-fD,<-fD,DU hv]
  .have hrp:r=p:=cG h;clear h;subst hrp;have hm2:=r6 hV (fun y hy=>e_ (h1 y hy)) h2;have hp2:=wr V u r;rw[gG];refine H ?_;exact vJ O (hK s2 _ hp2 (Dw h1) hm2)
theorem Gy {K:St->Prop}{s:St}{d g N:Nat}{x y z n c:Operand}{tys:Array TypeId}{ty:TypeId}{pos:String}{af:Array Edge}(P U:List BN)(v:BN)(S:List BN)(hU1:U.length≠1)(hU:gi bO U)(hs:∀p∈v::U,p.at'.sz 7000000)(hN:N=(P++U++[v]++S).length)(hN1:N<=1000)
  (hx:s.ev x=.als 5 g 0 N) (hy:s.ev y=I P.length) (hz:s.ev z=I (P.length+U.length:Nat)) (hn:s.ev n=I (P.length+U.length+1:Nat)) (hc:s.ev c=.clo 302 [])
  (ho:FitO s [(5,g,⟨320,8,(P++U++[v]++S).map b_,1⟩)])
  (hK:∀(s1:St) (W:List BN),W.Perm (U++[v])->(∀c,dA bO c W=dA bO c (U++[v]))->gi bO W->K (({ reg:=s.reg,own:=(s1.over [] [(5,g,⟨320,8,(P++W++S).map b_,1⟩)]).own }:St).putR d (.tup []))) :
  Sm Tryz.prog lay.get s ⟨some d,.call ⟨.value (.func 318),#[x,y,z,n,c],tys⟩,ty,pos,af,none⟩ K:=by
 have hlen:N=P.length+U.length+1+S.length:=by rw[hN];simp;omega
 obtain⟨m,hm⟩:∃m,m=P.length+U.length:=⟨_,O⟩;rw[<-hm]at hz hn hlen;refine cB dY O O Tryz.func318 O Y O O ?_;show PWP _ _ _ _ (bJ s (([x,y,z,n,c]:List Operand).map s.ev++[]));rw[show(([x,y,z,n,c]:List Operand).map s.ev++([]:List PV))=[.als 5 g 0 N,I P.length,I m,I (m+1:Nat),.clo 302 []] by simp[hx,hy,hz,hn,hc]];rw[show bJ s [.als 5 g 0 N,I P.length,I m,I (m+1:Nat),.clo 302 []]=bJ (s.over [] [(5,g,⟨320,8,(P++U++[v]++S).map b_,1⟩)]) [.als 5 g 0 N,I P.length,I m,I (m+1:Nat),.clo 302 []] by rw[Fit.over (l:=[]) ho]];have hwa:IntKind.i64.wrap (((m:Nat):Int)-(P.length:Nat))=(U.length:Nat):=by rw[wrap_i64 J J];omega
 have hwb:IntKind.i64.wrap (((m+1:Nat):Int)-(m:Nat))=1:=by rw[wrap_i64 J J];omega
 refine H ?_;rw[hwa];refine cO O ?_ ?_<;>intro h
 .have:=bK h;omega
 clear h;refine H ?_;rw[hwb];refine H ?_;refine ao (fun q:Nat × Nat=>q.1<=q.2/\q.2<=U.length/\(∀y∈U.take q.1,bO y<=bO v)/\(∀y∈U.drop q.2,bO v<bO y)) (fun q=>[(0,.als 5 g 0 N),(2,I m),(4,.clo 302 []),(14,I (P.length+q.1:Nat)),(15,I (P.length+q.2:Nat))])
  (fun q=>[(5,g,⟨320,8,(P++U++[v]++S).map b_,1⟩)]) (fun q=>q.2-q.1) (0,U.length) ⟨aF _,aH,aj,aj⟩ ⟨O,O,O,O,by rw[hm];rfl,O,bP⟩ ?_
 rintro⟨p,q⟩ s1 ⟨hpq,hqV,h1,h2⟩;simp only at hpq hqV h1 h2;dsimp only;refine D ?_ ?_<;>intro h
 .have hlt:p<q:=cP h;clear h;obtain⟨f,hf⟩:∃f,f=(p+q)/2:=⟨_,O⟩;obtain⟨u,hu⟩:=aK (show f<U.length by omega);have hmid:IntKind.i64.wrap (IntKind.u64.wrap (IntKind.i64.wrap (((P.length+p:Nat):Int)+((P.length+q:Nat):Int)))/2^Int.toNat 1)=((P.length+f:Nat):Int):=by
   rw[zo _ _ J];omega
  have hr1:((P++U++[v]++S).map b_)[P.length+f]?=some (b_ u):=Jv hu;have hr2:((P++U++[v]++S).map b_)[m]?=some (b_ v):=by rw[hm];exact Jw (V:=[v]) (i:=0) O
  have hw:IntKind.i64.wrap (((P.length+f:Nat):Int)+1)=((P.length+(f+1):Nat):Int):=by rw[wrap_i64 J J];omega
  refine H ?_;rw[hmid];refine nb 12 [92,93,94,95,96,97,98,99,100,101,102,103] aN ?_;refine H ?_;refine kP O O O O O O O O O ?_;rw[aS,aG m];refine bX O O (c_ O O O hr2 O) ?_;refine H ?_;refine kP O O O O O O O O O ?_;rw[aS,aG (P.length+f)];refine bX O O (c_ O O O hr1 O) ?_;refine H ?_;refine bX O O (pA O (mr (hs v (fO ..)) (hs u (ir _ (bG hu)))) O ak O O) ?_;refine D ?_ ?_<;>intro h
  .have hge2:bO u<=bO v:=by
    have h9:¬sgn (bO v-bO u)<0:=by simpa using h
    rw[dU]at h9;grind
   clear h;refine H ?_;refine⟨(f+1,q),⟨by simp only;omega,hqV,fun y hy=>?_,h2⟩,by simp only;omega,O,O,O,congrArg I hw,ak⟩;have:=nq hU hu y hy;grind
  .have hlt2:bO v<bO u:=by
    have h9:sgn (bO v-bO u)<0:=by simpa using h
    have:=(dU _).1 h9;grind
   clear h;refine H ?_;refine⟨(p,f),⟨by simp only;omega,by simp only;omega,h1,fun y hy=>?_⟩,by simp only;omega,ak⟩;have:=np hU hu y hy;grind
 .have he:p=q:=cG h;clear h;subst he;have hr0:P++U++[v]++S=gG P U v S U.length:=by rw[gG,bM,iw];simp
  refine H ?_;refine ao (fun r=>p<=r/\r<=U.length) (fun r=>[(0,.als 5 g 0 N),(14,I (P.length+p:Nat)),(17,I (P.length+r:Nat))]) (fun r=>[(5,g,⟨320,8,(gG P U v S r).map b_,1⟩)]) (fun r=>r) U.length ⟨hqV,aH⟩ ⟨O,O,by rw[<-hm];rfl,by rw[<-hr0];rfl,bP⟩ ?_;intro r' s2 ⟨hr,hrU⟩;refine D ?_ ?_<;>intro h
  .have hrp:p<r':=cP h;clear h;obtain⟨r,rfl⟩:∃r,r'=r+1:=⟨r'-1,J⟩;obtain⟨u,hu⟩:=aK (show r<U.length by omega);have hw:IntKind.i64.wrap (((P.length+(r+1):Nat):Int)-1)=((P.length+r:Nat):Int):=by rw[wrap_i64 J J];omega
   refine H ?_;refine kO [] [5] 15 [15,16,17] [2,3,4] aN aN ?_;refine H ?_;rw[hw];refine kP O O O O O O O O O ?_;rw[aS,aG (P.length+r)];refine bX O O (c_ O O O (sw hu) O) ?_;refine H ?_;refine kP O O O O O O O O O ?_;rw[aS,aG (P.length+(r+1))];refine bX O O (c_ O O O (sy hu) O) ?_;refine H ?_;refine kP O O O O O O O O O ?_;rw[aS,aG (P.length+(r+1))];refine H ?_;refine pK O O O (bW (kd':=1) O O O (sy hu) O O ak O O O O ⟨lp O,?_⟩);refine kP O O O O O O O O O ?_;rw[aS,aG (P.length+r)];refine pK O O O (bW (kd':=1) O O O (row:=b_ u) (by
    show(((gG P U v S (r+1)).map b_).set (P.length+(r+1)) _)[P.length+r]? = _
    rw[cV J];exact sw hu) O O ak O O O O ⟨lp O,?_⟩)
   refine H ?_;refine⟨r,⟨J,J⟩,J,O,O,congrArg I hw,?_,bP⟩;refine Eq.trans (b:=(g,some (Cont.mk 320 8 ((((gG P U v S (r+1)).map b_).set (P.length+r+1) (b_ u)).set (P.length+r) (b_ v)) 1))) O ?_;rw[<-fD,<-fD,yk hu]
  .have hrp:r'=p:=cG h;clear h;subst hrp;have hm2:=r6 hU h1 (fun y hy=>e_ (h2 y hy));have hp2:=(wr U v r').trans (List.perm_append_comm (l₁:=[v]) (l₂:=U));rw[gG];refine H ?_;exact vJ O (hK s2 _ hp2 (Dx h2) hm2)
theorem wF {P:Program}{L:b9}{Q:Exit->St->Prop}{s:St}{ι:Type}{x y:Code}(X:ι->Prop)(regs:ι->List (Nat × PV))(owns:ι->List (Nat × Nat × Cont))(h1:PWP P L x (XThen (fun s'=>∃i,X i/\Fit s' (regs i) (owns i)) Q) s)(h2:∀i,X i->∀s:St,PWP P L y Q (s.over (regs i) (owns i))):PWP P L x (XThen (fun s'=>PWP P L y Q s') Q) s:=by
 refine PWP.mono ?_ _ h1;intro e s' h;unfold XThen at h ⊢;cases e
 case normal =>
  obtain⟨i,hX,hF⟩:∃i,X i/\Fit s' (regs i) (owns i):=h;have:=h2 i hX s';rwa [Fit.over hF]at this
 all_goals exact h
theorem GK {F:St->Prop}{Q:Exit->St->Prop}{s:St}:XThen F Q .normal s=F s:=by unfold XThen;rfl
theorem ny {F:St->Prop}{Q:Exit->St->Prop}{e:Exit}{s:St}(h:e ≠ .normal):XThen F Q e s=Q e s:=by
 unfold XThen;cases e<;>first|rfl|exact absurd O h
theorem zO {P:Program}{L:b9}{Q:Exit->St->Prop}{s:St}{ι:Type}{x1 x2 y:Code}(X:ι->Prop)(regs:ι->List (Nat × PV))(owns:ι->List (Nat × Nat × Cont))(h1:PWP P L x1 (XThen (fun s'=>PWP P L x2 (XThen (fun s'=>∃i,X i/\Fit s' (regs i) (owns i)) Q) s') (XThen (fun s'=>∃i,X i/\Fit s' (regs i) (owns i)) Q)) s)(h2:∀i,X i->∀s:St,PWP P L y Q (s.over (regs i) (owns i))):PWP P L x1 (XThen (fun s'=>PWP P L x2 (XThen (fun s'=>PWP P L y Q s') Q) s') (XThen (fun s'=>PWP P L y Q s') Q)) s:=by
 refine PWP.mono (fun e s' h=>?_) _ h1;by_cases he:e=.normal
 .subst he;rw[GK]at h ⊢;exact wF X regs owns h h2
 .rw[ny he,ny he]at h;rw[ny he,ny he];exact h
def Jq (U V:List BN)(a m n lo c:Nat):Prop:=c=lo\/∃s' u v,c=a+s'+1/\U[s']?=some u/\V[n-c-m]?=some v/\bO u<=bO v
def Jr (U V:List BN)(a m n hi c:Nat):Prop:=c=hi\/∃t' v u,n=c+m+t'+1/\V[t']?=some v/\U[c-a]?=some u/\bO v<bO u
theorem E9 {U V:List BN}(hU:gi bO U)(hV:gi bO V){s t:Nat}(h:s=0\/t=V.length\/∃s' u v,s=s'+1/\U[s']?=some u/\V[t]?=some v/\bO u<bO v):Iw bO (U.take s) (V.drop t):=by
 intro x hx y hy;rcases h with rfl|rfl|⟨s',u,v,rfl,hu,hv,huv⟩
 .simp at hx
 .simp at hy
 .have h1:=nq hU hu x hx;have h2:=np hV hv y hy;grind
theorem Gz {w:Nat} (ih:∀ {K:St->Prop} {s:St} {d g N:Nat} {x y z n c:Operand} {tys:Array TypeId} {ty:TypeId} {pos:String} {af:Array Edge} (P U V S:List BN),U.length+V.length<=w->U≠[]->V≠[]->gi bO U->gi bO V->(∀p∈U++V,p.at'.sz 7000000)->N=(P++U++V++S).length->N<=1000 ->
  s.ev x=.als 5 g 0 N->s.ev y=I P.length->s.ev z=I (P.length+U.length:Nat)->s.ev n=I (P.length+U.length+V.length:Nat)->s.ev c=.clo 302 []->FitO s [(5,g,⟨320,8,(P++U++V++S).map b_,1⟩)] ->
  (∀(s1:St) (W:List BN),W.Perm (U++V)->(∀c,dA bO c W=dA bO c (U++V))->gi bO W->K (({ reg:=s.reg,own:=(s1.over [] [(5,g,⟨320,8,(P++W++S).map b_,1⟩)]).own }:St).putR d (.tup []))) ->
  Sm Tryz.prog lay.get s ⟨some d,.call ⟨.value (.func 318),#[x,y,z,n,c],tys⟩,ty,pos,af,none⟩ K)
  {K:St->Prop} {s:St} {d g N:Nat} {x y z n c:Operand} {tys:Array TypeId} {ty:TypeId} {pos:String} {af:Array Edge} (P U V S:List BN) (hw:U.length+V.length<=w+1) (hU2:2<=U.length) (hV2:2<=V.length) (hU:gi bO U) (hV:gi bO V) (hs:∀p∈U++V,p.at'.sz 7000000) (hN:N=(P++U++V++S).length) (hN1:N<=1000)
  (hx:s.ev x=.als 5 g 0 N) (hy:s.ev y=I P.length) (hz:s.ev z=I (P.length+U.length:Nat)) (hn:s.ev n=I (P.length+U.length+V.length:Nat)) (hc:s.ev c=.clo 302 [])
  (ho:FitO s [(5,g,⟨320,8,(P++U++V++S).map b_,1⟩)])
  (hK:∀(s1:St) (W:List BN),W.Perm (U++V)->(∀c,dA bO c W=dA bO c (U++V))->gi bO W->K (({ reg:=s.reg,own:=(s1.over [] [(5,g,⟨320,8,(P++W++S).map b_,1⟩)]).own }:St).putR d (.tup []))) :
  Sm Tryz.prog lay.get s ⟨some d,.call ⟨.value (.func 318),#[x,y,z,n,c],tys⟩,ty,pos,af,none⟩ K:=by
 have hlen:N=P.length+U.length+V.length+S.length:=by rw[hN];simp;omega
 obtain⟨m,hm⟩:∃m,m=P.length+U.length:=⟨_,O⟩;obtain⟨b,hb⟩:∃b,b=m+V.length:=⟨_,O⟩;rw[<-hm]at hz hn hlen;rw[<-hb]at hn;refine cB dY O O Tryz.func318 O Y O O ?_;show PWP _ _ _ _ (bJ s (([x,y,z,n,c]:List Operand).map s.ev++[]));rw[show(([x,y,z,n,c]:List Operand).map s.ev++([]:List PV))=[.als 5 g 0 N,I P.length,I m,I b,.clo 302 []] by simp[hx,hy,hz,hn,hc]];rw[show bJ s [.als 5 g 0 N,I P.length,I m,I b,.clo 302 []]=bJ (s.over [] [(5,g,⟨320,8,(P++U++V++S).map b_,1⟩)]) [.als 5 g 0 N,I P.length,I m,I b,.clo 302 []] by rw[Fit.over (l:=[]) ho]];have hwa:IntKind.i64.wrap (((m:Nat):Int)-(P.length:Nat))=(U.length:Nat):=by rw[wrap_i64 J J];omega
 have hwb:IntKind.i64.wrap (((b:Nat):Int)-(m:Nat))=(V.length:Nat):=by rw[wrap_i64 J J];omega
 obtain⟨D0,hD⟩:∃D0,D0=(P.length+b)/2:=⟨_,O⟩;have hmid:IntKind.i64.wrap (IntKind.u64.wrap (IntKind.i64.wrap (((P.length:Nat):Int)+((b:Nat):Int)))/2^Int.toNat 1)=((D0:Nat):Int):=by rw[zo _ _ J,hD]
 have hnn:IntKind.i64.wrap (((D0:Nat):Int)+(m:Nat))=((D0+m:Nat):Int):=by rw[wrap_i64 J J];omega
 have hpp:IntKind.i64.wrap (((D0+m:Nat):Int)-1)=((D0+m-1:Nat):Int):=by rw[wrap_i64 J J];omega
 refine H ?_;rw[hwa];refine cO O ?_ ?_<;>intro h
 .have:=bK h;omega
 clear h;refine H ?_;rw[hwb];refine cO O ?_ ?_<;>intro h
 .have:=bK h;omega
 clear h;refine H ?_;rw[hmid];refine H ?_;rw[hnn];refine wF (fun q:Nat × Nat=>P.length<=q.1/\q.1<=q.2/\q.2<=m/\q.2<=D0/\D0+m<=q.1+b/\(q.1=P.length\/q.1+b=D0+m)/\(q.2=D0\/q.2=m)) (fun q=>[(0,.als 5 g 0 N),(1,I P.length),(2,I m),(3,I b),(4,.clo 302 []),(18,I D0),(19,I (D0+m:Nat)),(20,I (q.1:Nat)),(21,I (q.2:Nat))]) (fun _=>[(5,g,⟨320,8,(P++U++V++S).map b_,1⟩)]) ?_ ?_
 .refine cO O ?_ ?_<;>intro h
  .have hgt:D0<m:=cP h;clear h;have hnb:IntKind.i64.wrap (((D0+m:Nat):Int)-(b:Nat))=((D0+m-b:Nat):Int):=by rw[wrap_i64 J J];omega
   refine H ?_;exact⟨(D0+m-b,D0),⟨by simp only;omega,by simp only;omega,by simp only;omega,by simp only;omega,by simp only;omega,.inr (by simp only;omega),.inl O⟩,O,O,O,O,O,O,O,congrArg I hnb,ak⟩
  .have hle:m<=D0:=cG h;clear h;refine H ?_;exact⟨(P.length,m),⟨by simp only;omega,by simp only;omega,by simp only;omega,by simp only;omega,by simp only;omega,.inl O,.inr O⟩,ak⟩
 rintro⟨lo,hi⟩ ⟨q1,q2,q3,q4,q5,q6,q7⟩ s1;simp only at q1 q2 q3 q4 q5 q6 q7;dsimp only;refine H ?_;rw[hpp];refine ao (fun q:Nat × Nat=>lo<=q.1/\q.1<=q.2/\q.2<=hi/\Jq U V P.length m (D0+m) lo q.1/\Jr U V P.length m (D0+m) hi q.2) (fun q=>[(0,.als 5 g 0 N),(1,I P.length),(2,I m),(3,I b),(4,.clo 302 []),(18,I D0),(19,I (D0+m:Nat)),(20,I (q.1:Nat)),(21,I (q.2:Nat)),(22,I (D0+m-1:Nat))])
  (fun _=>[(5,g,⟨320,8,(P++U++V++S).map b_,1⟩)]) (fun q=>q.2-q.1) (lo,hi) ⟨aH,q2,aH,.inl O,.inl O⟩ ak ?_
 rintro⟨st,rr⟩ s2 ⟨l1,l2,l3,hA,hB⟩;simp only at l1 l2 l3 hA hB;dsimp only;refine D ?_ ?_<;>intro h
 .have hlt:st<rr:=cP h;clear h;obtain⟨f,hf⟩:∃f,f=(st+rr)/2:=⟨_,O⟩;obtain⟨u,hu⟩:=aK (show f-P.length<U.length by omega);obtain⟨v,hv⟩:=aK (show D0-1-f<V.length by omega);have hmf:IntKind.i64.wrap (IntKind.u64.wrap (IntKind.i64.wrap (((st:Nat):Int)+((rr:Nat):Int)))/2^Int.toNat 1)=((f:Nat):Int):=by rw[zo _ _ J,hf]
  have hpf:IntKind.i64.wrap (((D0+m-1:Nat):Int)-(f:Nat))=((m+(D0-1-f):Nat):Int):=by rw[wrap_i64 J J];omega
  have hr1:((P++U++V++S).map b_)[m+(D0-1-f)]?=some (b_ v):=by rw[hm];exact Jw hv
  have hr2:((P++U++V++S).map b_)[f]?=some (b_ u):=by rw[show f=P.length+(f-P.length) by omega];exact Jv hu
  have hw1:=im f;refine H ?_;rw[hmf];refine nb 14 [158,159,160,161,162,163,164,165,166,167,168,169,170,171] aN ?_;refine H ?_;rw[hpf];refine kP O O O O O O O O O ?_;rw[aS,aG (m+(D0-1-f))];refine bX O O (c_ O O O hr1 O) ?_;refine H ?_;refine kP O O O O O O O O O ?_;rw[aS,aG f];refine bX O O (c_ O O O hr2 O) ?_;refine H ?_;refine bX O O (pA O (mr (hs v (gN _ (bG hv))) (hs u (iq _ (bG hu)))) O ak O O) ?_;refine D ?_ ?_<;>intro h
  .have hge2:bO u<=bO v:=by
    have h9:¬sgn (bO v-bO u)<0:=by simpa using h
    rw[dU]at h9;grind
   clear h;refine H ?_;exact⟨(f+1,rr),⟨by simp only;omega,by simp only;omega,l3,.inr ⟨f-P.length,u,v,J,hu,by rw[show D0+m-(f+1)-m=D0-1-f by omega];exact hv,hge2⟩,hB⟩,by simp only;omega,O,O,O,O,O,O,O,congrArg I hw1,ak⟩
  .have hlt2:bO v<bO u:=by
    have h9:sgn (bO v-bO u)<0:=by simpa using h
    have:=(dU _).1 h9;grind
   clear h;refine H ?_;exact⟨(st,f),⟨l1,by simp only;omega,by simp only;omega,hA,.inr ⟨D0-1-f,v,u,J,hv,hu,hlt2⟩⟩,by simp only;omega,ak⟩
 .have he:st=rr:=cG h;clear h;subst he;obtain⟨k,hk⟩:∃k,k=st-P.length:=⟨_,O⟩;obtain⟨j,hj⟩:∃j,j=D0-st:=⟨_,O⟩;have c1:E0 bO (U.take k) (V.drop j):=by
   refine E8 hU hV ?_;rcases hA with e|⟨s',u,v,e,hu,hv,huv⟩
   .rcases q6 with e2|e2
    .exact .inl J
    .exact .inr (.inl J)
   .exact .inr (.inr ⟨s',u,v,J,hu,by rw[show j=D0+m-st-m by omega];exact hv,huv⟩)
  have c2s:Iw bO (V.take j) (U.drop k):=by
   refine E9 hV hU ?_;rcases hB with e|⟨t',v,u,e,hv,hu,huv⟩
   .rcases q7 with e2|e2
    .exact .inl J
    .exact .inr (.inl J)
   .exact .inr (.inr ⟨t',v,u,J,hv,by rw[hk];exact hu,huv⟩)
  have c2:E0 bO (V.take j) (U.drop k):=fun x hx y hy=>e_ (c2s x hx y hy);have hend:IntKind.i64.wrap (((D0+m:Nat):Int)-(st:Nat))=((m+j:Nat):Int):=by rw[wrap_i64 J J];omega
  have hkl:(U.take k).length=k:=by rw[bI];omega
  have hjl:(V.take j).length=j:=by rw[bI];omega
  have hkd:(U.drop k).length=U.length-k:=fR;have hjd:(V.drop j).length=V.length-j:=fR;have eU:U.take k++U.drop k=U:=cD _ _;have eV:V.take j++V.drop j=V:=cD _ _;have hR0:P++U++V++S=P++U.take k++U.drop k++V.take j++(V.drop j++S):=by
   have e1:P++U++V++S=P++(U.take k++U.drop k)++(V.take j++V.drop j)++S:=by rw[eU,eV]
   rw[e1];simp only[bt]
  refine dN 39 ?_;rw[hend];have hR1:j=0\/k=U.length->P++U++V++S=P++U.take k++V.take j++(U.drop k++V.drop j++S):=by
   rintro(h|h)
   .rw[hR0,h,ib,cu,cu];try simp only[bt]
   .rw[hR0,h,iw,cu,kE];try simp only[bt]
  have hW1:j=0\/k=0->gi bO (U.take k++V.take j):=fun h=>pE (kj hU k) (kj hV j) fun x hx y hy=>by
   rcases h with h|h
   .rw[h]at hy;simp at hy
   .rw[h]at hx;simp at hx
  have hW2:j=V.length\/k=U.length->gi bO (U.drop k++V.drop j):=fun h=>pE (ki hU k) (ki hV j) fun x hx y hy=>by
   rcases h with h|h
   .rw[h]at hy;simp at hy
   .rw[h]at hx;simp at hx
  have hsT:∀p∈U.take k++V.take j,p.at'.sz 7000000:=fun p hp=>by
   rcases fe.1 hp with h|h
   .exact hs p (iq _ (gp h))
   .exact hs p (gN _ (gp h))
  have hsD:∀p∈U.drop k++V.drop j,p.at'.sz 7000000:=fun p hp=>by
   rcases fe.1 hp with h|h
   .exact hs p (iq _ (ky h))
   .exact hs p (gN _ (ky h))
  refine zO (fun _:Unit=>True) (fun _=>[(0,.als 5 g 0 N),(1,I P.length),(3,I b),(4,.clo 302 []),(18,I D0),(20,I (st:Nat)),(24,I (m+j:Nat))]) (fun _=>[(5,g,⟨320,8,(P++U.take k++V.take j++(U.drop k++V.drop j++S)).map b_,1⟩)]) ?_ ?_
  .refine fZ ?_ ?_<;>intro h
   .have hlt:st<m:=cP h;clear h;refine D ?_ ?_<;>intro h
    .have hj0:0<j:=cP h;clear h;rw[hR0]
     (refine dN 40 ?_;refine aD 5 ?_)
     refine H ?_;refine aU O (H_ (N:=N) (P++U.take k) (U.drop k) (V.take j) (V.drop j++S) (by intro e;have:=congrArg List.length e;rw[hkd]at this;have:U.length-k=0:=this;omega) (by intro e;have:=congrArg List.length e;rw[hjl]at this;have:j=0:=this;omega) (by rw[<-hR0];exact hN) hN1 O (congrArg (fun n:Nat=>I n) (show st=(P++U.take k).length by rw[bT];omega)) (congrArg (fun n:Nat=>I n) (show m=(P++U.take k).length+(U.drop k).length by rw[bT];omega)) (congrArg (fun n:Nat=>I n) (show m+j=(P++U.take k).length+(U.drop k).length+(V.take j).length by rw[bT];omega)) O ⟨O,bP⟩ fun s4=>?_);refine aE ?_;refine H ?_;refine⟨(),trivial,O,O,O,O,O,O,O,?_,bP⟩;rw[show P++U.take k++V.take j++(U.drop k++V.drop j++S)=P++U.take k++V.take j++U.drop k++(V.drop j++S) by simp only[bt]];rfl
    .have hj0:j=0:=cG h;clear h;refine H ?_;exact⟨(),trivial,O,O,O,O,O,O,O,by rw[<-hR1 (.inl hj0)];rfl,bP⟩
   .have hge:k=U.length:=cG h;clear h;refine H ?_;exact⟨(),trivial,O,O,O,O,O,O,O,by rw[<-hR1 (.inr hge)];rfl,bP⟩
  intro _ _ s3;refine dN 41 ?_;refine zO (fun W:List BN=>W.Perm (U.take k++V.take j)/\(∀c,dA bO c W=dA bO c (U.take k++V.take j))/\gi bO W) (fun _=>[(0,.als 5 g 0 N),(3,I b),(4,.clo 302 []),(18,I D0),(24,I (m+j:Nat))]) (fun W=>[(5,g,⟨320,8,(P++W++(U.drop k++V.drop j++S)).map b_,1⟩)]) ?_ ?_
  .have hE:P++U.take k++V.take j++(U.drop k++V.drop j++S)=P++(U.take k++V.take j)++(U.drop k++V.drop j++S):=by simp only[bt]
   refine fZ ?_ ?_<;>intro h
   .have hk0:0<k:=cP h;clear h;refine D ?_ ?_<;>intro h
    .have hj0:0<j:=cP h;clear h
     (refine dN 42 ?_;refine aD 5 ?_)
     refine H ?_;refine aU O (ih (N:=N) P (U.take k) (V.take j) (U.drop k++V.drop j++S) J (by intro e;have:=congrArg List.length e;rw[hkl]at this;have:k=0:=this;omega) (by intro e;have:=congrArg List.length e;rw[hjl]at this;have:j=0:=this;omega) (kj hU k) (kj hV j) hsT (by rw[hlen];simp only[bT];omega) hN1 O O (congrArg (fun n:Nat=>I n) (show st=P.length+(U.take k).length by omega)) (congrArg (fun n:Nat=>I n) (show D0=P.length+(U.take k).length+(V.take j).length by omega)) O ⟨O,bP⟩ fun s4 W hp hf hs4=>?_);refine aE ?_;refine H ?_;exact⟨W,⟨hp,hf,hs4⟩,ak⟩
    .have hj0:j=0:=cG h;clear h;refine H ?_;exact⟨U.take k++V.take j,⟨.refl _,fun _=>rfl,hW1 (.inl hj0)⟩,O,O,O,O,O,by rw[<-hE];rfl,bP⟩
   .have hk0:k=0:=cG h;clear h;refine H ?_;exact⟨U.take k++V.take j,⟨.refl _,fun _=>rfl,hW1 (.inr hk0)⟩,O,O,O,O,O,by rw[<-hE];rfl,bP⟩
  rintro W1 ⟨p1,f1,s1W⟩ s5;have hWl:W1.length=k+j:=by rw[p1.length_eq,bT];omega
  have fin:∀(W2:List BN),W2.Perm (U.drop k++V.drop j)->(∀c,dA bO c W2=dA bO c (U.drop k++V.drop j))->gi bO W2->∀s6:St,K (({ reg:=s.reg,own:=(s6.over [] [(5,g,⟨320,8,(P++W1++W2++S).map b_,1⟩)]).own }:St).putR d (.tup [])):=fun W2 p2 f2 s2W s6=>by
   obtain⟨r1,r2⟩:=tW hU hV c1 c2 p1 p2 s1W s2W;have:=hK s6 (W1++W2) r2 (xH c2s f1 f2) r1;rwa [show P++(W1++W2)++S=P++W1++W2++S by simp only[bt]]at this
  have hE2:P++W1++(U.drop k++V.drop j++S)=P++W1++(U.drop k++V.drop j)++S:=by simp only[bt]
  refine fZ ?_ ?_<;>intro h
  .have hk1:k<U.length:=cP h;clear h;refine D ?_ ?_<;>intro h
   .have hj1:j<V.length:=cP h;clear h;rw[show P++W1++(U.drop k++V.drop j++S)=P++W1++U.drop k++V.drop j++S by simp only[bt]]
    (refine dN 44 ?_;refine aD 5 ?_)
    refine H ?_;refine aU O (ih (N:=N) (P++W1) (U.drop k) (V.drop j) S J (by intro e;have:=congrArg List.length e;rw[hkd]at this;have:U.length-k=0:=this;omega) (by intro e;have:=congrArg List.length e;rw[hjd]at this;have:V.length-j=0:=this;omega) (ki hU k) (ki hV j) hsD (by rw[hlen];simp only[bT];omega) hN1 O (congrArg (fun n:Nat=>I n) (show D0=(P++W1).length by rw[bT];omega)) (congrArg (fun n:Nat=>I n) (show m+j=(P++W1).length+(U.drop k).length by rw[bT];omega)) (congrArg (fun n:Nat=>I n) (show b=(P++W1).length+(U.drop k).length+(V.drop j).length by rw[bT];omega)) O ⟨O,bP⟩ fun s6 W2 p2 f2 s2W=>?_);refine aE ?_;refine H ?_;exact eW O (fin W2 p2 f2 s2W s6)
   .have hj1:j=V.length:=cG h;clear h;rw[hE2];refine H ?_;exact eW O (fin _ (.refl _) (fun _=>rfl) (hW2 (.inl hj1)) s5)
  .have hk1:k=U.length:=cG h;clear h;rw[hE2];refine H ?_;exact eW O (fin _ (.refl _) (fun _=>rfl) (hW2 (.inr hk1)) s5)
theorem EH (w:Nat):∀ {K:St->Prop} {s:St} {d g N:Nat} {x y z n c:Operand} {tys:Array TypeId} {ty:TypeId} {pos:String} {af:Array Edge} (P U V S:List BN),U.length+V.length<=w->U≠[]->V≠[]->gi bO U->gi bO V->(∀p∈U++V,p.at'.sz 7000000)->N=(P++U++V++S).length->N<=1000 ->
  s.ev x=.als 5 g 0 N->s.ev y=I P.length->s.ev z=I (P.length+U.length:Nat)->s.ev n=I (P.length+U.length+V.length:Nat)->s.ev c=.clo 302 []->FitO s [(5,g,⟨320,8,(P++U++V++S).map b_,1⟩)] ->
  (∀(s1:St) (W:List BN),W.Perm (U++V)->(∀c,dA bO c W=dA bO c (U++V))->gi bO W->K (({ reg:=s.reg,own:=(s1.over [] [(5,g,⟨320,8,(P++W++S).map b_,1⟩)]).own }:St).putR d (.tup []))) ->
  Sm Tryz.prog lay.get s ⟨some d,.call ⟨.value (.func 318),#[x,y,z,n,c],tys⟩,ty,pos,af,none⟩ K:=by
 induction w with
 |zero =>
  intro K s d g N x y z n c tys ty pos af P U V S hw hU;have:U.length=0:=J;exact absurd (nP.1 this) hU
 |succ w ih =>
  intro K s d g N x y z n c tys ty pos af P U V S hw hU0 hV0 hU hV hs hN hN1 hx hy hz hn hc ho hK;by_cases h1:U.length=1
  .obtain⟨u,rfl⟩:=to.1 h1;exact Gx P u V S hV (fun p hp=>hs p hp) hN hN1 hx hy hz hn hc ho hK
  by_cases h2:V.length=1
  .obtain⟨v,rfl⟩:=to.1 h2;exact Gy P U v S h1 hU (fun p hp=>hs p (by
    rcases cw.1 hp with rfl|hp
    .exact gN _ (List.mem_singleton_self _)
    .exact iq _ hp)) hN hN1 hx hy hz hn hc ho hK
  have p1:0<U.length:=o7.2 hU0;have p2:0<V.length:=o7.2 hV0;exact Gz ih P U V S hw J J hU hV hs hN hN1 hx hy hz hn hc ho hK
theorem zj {A B S:List BN}{q:Nat}{x:BN}(h:B[q]?=some x):((A++B++S).map b_)[A.length+q]?=some (b_ x):=by
 have hq:=(bD h).1;rw[aV,bt,dj J,show A.length+q-A.length=q by omega,fG hq,h];rfl
theorem zk {A B S:List BN}{q:Nat}{y:BN}(h:q<B.length):(A++B++S).set (A.length+q) y=A++B.set q y++S:=by
 rw[bt,oZ _ _ J,show A.length+q-A.length=q by omega,tu _ _ h,bt]
theorem y2 {K:St->Prop}{s:St}{d g N:Nat}{x y z c:Operand}{tys:Array TypeId}{ty:TypeId}{pos:String}{af:Array Edge}(A l S:List BN)(hN:N=(A++l++S).length)(hN1:N<=1000)
  (hx:s.ev x=.als 5 g 0 N) (hy:s.ev y=I A.length) (hz:s.ev z=I (A.length+l.length:Nat)) (hc:s.ev c=.clo 302 [])
  (hd:∀p∈l,p.at'.sz 7000000)
  (ho:FitO s [(5,g,⟨320,8,(A++l++S).map b_,1⟩)])
  (hK:∀s1:St,K (({ reg:=s.reg,own:=(s1.over [] [(5,g,⟨320,8,(A++da bO l++S).map b_,1⟩)]).own }:St).putR d (.tup []))) :
  Sm Tryz.prog lay.get s ⟨some d,.call ⟨.value (.func 317),#[x,y,z,c],tys⟩,ty,pos,af,none⟩ K:=by
 refine cB dY O O Tryz.func317 O Y O O ?_;show PWP _ _ _ _ (bJ s (([x,y,z,c]:List Operand).map s.ev++[]));rw[show(([x,y,z,c]:List Operand).map s.ev++([]:List PV))=[.als 5 g 0 N,I A.length,I (A.length+l.length:Nat),.clo 302 []] by simp[hx,hy,hz,hc]];rw[show bJ s [.als 5 g 0 N,I A.length,I (A.length+l.length:Nat),.clo 302 []]=bJ (s.over [] [(5,g,⟨320,8,(A++l++S).map b_,1⟩)]) [.als 5 g 0 N,I A.length,I (A.length+l.length:Nat),.clo 302 []] by rw[Fit.over (l:=[]) ho]];have hlen:N=A.length+l.length+S.length:=by rw[hN];simp;omega
 have h1s:da bO (l.take 1)++l.drop 1=l:=by
  cases l with
  |nil=>rfl
  |cons x r=>rfl
 have hw0:IntKind.i64.wrap (((A.length:Nat):Int)+1)=((A.length+1:Nat):Int):=by rw[wrap_i64 J J];omega
 refine H ?_;rw[hw0];refine ao (fun i=>1<=i/\(i<=l.length\/i=1)) (fun i=>[(0,.als 5 g 0 N),(1,I A.length),(2,I (A.length+l.length:Nat)),(3,.clo 302 []),(8,I (A.length+i:Nat))])
  (fun i=>[(5,g,⟨320,8,(A++(da bO (l.take i)++l.drop i)++S).map b_,1⟩)]) (fun i=>l.length+1-i) 1 ⟨aH,.inr O⟩ ⟨O,O,O,O,O,by rw[h1s];rfl,bP⟩ ?_
 rintro i s1 ⟨hi1,hi⟩;refine D ?_ ?_<;>intro h
 .have hlt:i<l.length:=cP h;clear h;obtain⟨p,hp⟩:=aK hlt;have htk:l.take (i+1)=l.take i++[p]:=bY hp;have hdr:l.drop i=p::l.drop (i+1):=gM hp;have hnx:IntKind.i64.wrap (((A.length+i:Nat):Int)+1)=((A.length+(i+1):Nat):Int):=by rw[wrap_i64 J J];omega
  generalize hP:da bO (l.take i)=P at *
  have hPl:P.length=i:=by rw[<-hP,fq,bI];omega
  have hstart:P++l.drop i=dC P p i++l.drop (i+1):=by
   have hti:P.take i=P:=dp J;have hdi:P.drop i=[]:=jZ J;rw[hdr,dC,hti,hdi];simp
  refine H ?_;refine ao (fun j=>j<=i/\∀q y,j<=q->P[q]?=some y->bO p<bO y) (fun j=>[(0,.als 5 g 0 N),(1,I A.length),(2,I (A.length+l.length:Nat)),(3,.clo 302 []),(8,I (A.length+i:Nat)),(9,I (A.length+j:Nat))])
   (fun j=>[(5,g,⟨320,8,(A++(dC P p j++l.drop (i+1))++S).map b_,1⟩)]) (fun j=>j) i ⟨aH,fun q y hq hy=>by rw[dF J]at hy;cases hy⟩ ⟨O,O,O,O,O,O,by rw[hstart];rfl,bP⟩ ?_
  rintro j s2 ⟨hj,hpre⟩;refine dg 17 [18,19,20,21,22,23,24,25,26,27,28,29,30,31,32,33,34] ?_;refine fZ ?_ ?_<;>intro h
  .have hj0:0<j:=cP h;clear h;obtain⟨k,rfl⟩:∃k,j=k+1:=⟨j-1,J⟩;have hIl:(dC P p (k+1)).length=i+1:=by simp[dC];omega
   have hB1:(dC P p (k+1)++l.drop (i+1))[k+1]?=some p:=by
    rw[fG J,vK J]
   obtain⟨y,hy1⟩:=aK (show k<P.length by omega);have hB2:(dC P p (k+1)++l.drop (i+1))[k]?=some y:=by
    rw[fG J,qn J J,hy1]
   have hrow:=zj (A:=A) (S:=S) hB1;have hrow2:=zj (A:=A) (S:=S) hB2;have hym:y∈l:=gp ((jC bO _).mem_iff.1 (hP▸bG hy1));have hw1:IntKind.i64.wrap (((A.length+(k+1):Nat):Int)-1)=((A.length+k:Nat):Int):=by rw[wrap_i64 J J];omega
   refine H ?_;refine kP O O O O O O O O O ?_;rw[aS,aG (A.length+(k+1))];refine bX O O (c_ O O O hrow O) ?_;refine H ?_;rw[hw1];refine kP O O O O O O O O O ?_;rw[aS,aG (A.length+k)];refine bX O O (c_ O O O hrow2 O) ?_;refine aB (mr (hd p (bG hp)) (hd y hym)) ?_;refine D ?_ ?_<;>intro h
   .have hlt2:bO p<bO y:=by have:=(dU _).1 (bK h);grind
    clear h;refine H ?_;refine kO [] [5] 15 [15,16,17] [2,3,4] aN aN ?_;refine H ?_;rw[hw1];refine kP O O O O O O O O O ?_;rw[aS,aG (A.length+k)];refine bX O O (c_ O O O hrow2 O) ?_;refine H ?_;refine kP O O O O O O O O O ?_;rw[aS,aG (A.length+(k+1))];refine bX O O (c_ O O O hrow O) ?_;refine H ?_;refine kP O O O O O O O O O ?_;rw[aS,aG (A.length+(k+1))];refine H ?_;refine pK O O O (bW (kd':=1) O O O hrow O O ak O O O O ⟨lp O,?_⟩);refine kP O O O O O O O O O ?_;rw[aS,aG (A.length+k)];refine pK O O O (bW (kd':=1) O O O (row:=b_ y) (by
     show(((A++(dC P p (k+1)++l.drop (i+1))++S).map b_).set (A.length+(k+1)) _)[A.length+k]? = _
     rw[cV J];exact hrow2) O O ak O O O O ⟨lp O,?_⟩)
    refine H ?_;refine⟨k,⟨J,fun q z hq hz=>?_⟩,J,O,O,O,O,O,congrArg I hw1,?_,bP⟩
    .by_cases hqk:q=k
     .subst hqk;rw[hy1]at hz;cases hz;exact hlt2
     .exact hpre q z J hz
    .refine Eq.trans (b:=(g,some (Cont.mk 320 8 ((((A++(dC P p (k+1)++l.drop (i+1))++S).map b_).set (A.length+(k+1)) (b_ y)).set (A.length+k) (b_ p)) 1))) O ?_;rw[<-fD,<-fD,zk (by rw[bT];omega),zk (by rw[iA,bT];omega),tu _ _ J,tu _ _ (by rw[iA];omega),xL J hy1]
   .have hge2:bO y<=bO p:=by
     have h9:=cJ h;rw[dU]at h9;grind
    clear h;have hpos:Bi bO P p=k+1:=zK J hpre (.inr ⟨y,hy1,hge2⟩);have hins:da bO (l.take (i+1))=dC P p (k+1):=by rw[htk,qV,hP,nL,hpos]
    refine H ?_;refine⟨i+1,⟨J,.inl J⟩,J,O,O,O,O,congrArg I hnx,?_,bP⟩;rw[hins];rfl
  .have hj0:j=0:=cG h;subst hj0;clear h;have hpos:Bi bO P p=0:=zK J hpre (.inl O);have hins:da bO (l.take (i+1))=dC P p 0:=by rw[htk,qV,hP,nL,hpos]
   refine H ?_;refine⟨i+1,⟨J,.inl J⟩,J,O,O,O,O,congrArg I hnx,?_,bP⟩;rw[hins];rfl
 .have hge:l.length<=i:=cG h;have hend:da bO (l.take i)++l.drop i=da bO l:=by
   rw[dp hge,jZ hge,cu]
  rw[hend];refine H ?_;exact eW O (hK s1)
section
variable {α:Type}{key:α->Rat}
inductive Bk (key:α->Rat) (n:Nat):List α->Prop
 |last {l:List α}:l.length<=n->gi key l->Bk key n l
 |cons {x l:List α}:x.length=n->gi key x->Bk key n l->Bk key n (x++l)
inductive Fk (key:α->Rat) (n:Nat):List α->Prop
 |nil:Fk key n []
 |snoc {p x:List α}:Fk key n p->x.length=n->gi key x->Fk key n (p++x)
theorem CJ {n:Nat}{p:List α}(h:Fk key n p):∀ {t:List α},Bk key n t->Bk key n (p++t):=by
 induction h with
 |nil=>intro t ht;exact ht
 |snoc _ hx hs ih=>intro t ht;rw[bt];exact ih (.cons hx hs ht)
theorem pU {n:Nat}{t:List α}(h:Bk key n t)(hl:t.length<=n):gi key t:=by
 cases h with
 |last _ hs=>exact hs
 |cons hx hs hb =>
  rename_i x l;have:l=[]:=nP.1 (by rw[bT]at hl;omega);subst this;rw[cu];exact hs
theorem Hz {n:Nat}{t:List α}(hn:0<n)(h:Bk key n t)(hl:2*n<=t.length):∃x y l,t=x++y++l/\x.length=n/\y.length=n/\gi key x/\gi key y/\Bk key n l:=by
 cases h with
 |last h1 _=>omega
 |cons hx hs hb =>
  rename_i x l;cases hb with
  |last h1 hs2=>exact⟨x,l,[],(cu _).symm,hx,by rw[bT]at hl;omega,hs,hs2,.last (aF _) List.Pairwise.nil⟩
  |cons hy hs2 hb2 =>
   rename_i y l;exact⟨x,y,l,(bt ..).symm,hx,hy,hs,hs2,hb2⟩
theorem Fa {n:Nat}{t:List α}(h:Bk key n t)(h1:n<t.length)(h2:t.length<2*n):∃x y,t=x++y/\x.length=n/\y.length<n/\y≠[]/\gi key x/\gi key y:=by
 cases h with
 |last h3 _=>omega
 |cons hx hs hb =>
  rename_i x l;rw[bT]at h1 h2;refine⟨x,l,O,hx,J,?_,hs,pU hb J⟩;rintro rfl;simp at h1;omega
end
theorem CF {W l:List BN}(h:∀c,dA bO c W=dA bO c l){p:BN}(hp:p∈W):p∈l:=by
 have:p∈dA bO (bO p) W:=eZ.2 ⟨hp,O⟩;rw[h]at this;exact(eZ.1 this).1
theorem HG {α:Type}{t:List α}{n:Nat}(h:n<=t.length):∃a s,t=a++s/\a.length=n:=⟨t.take n,t.drop n,(cD n t).symm,by rw[bI];omega⟩
theorem yt {K:St->Prop}{s:St}{d g:Nat}{x z c:Operand}{tys:Array TypeId}{ty:TypeId}{pos:String}{af:Array Edge}(l:List BN)(hl:l.length<=400)
  (hx:s.ev x=.als 5 g 0 (l.map b_).length) (hz:s.ev z=I l.length) (hc:s.ev c=.clo 302 [])
  (hd:∀p∈l,p.at'.sz 7000000)
  (ho:FitO s [(5,g,⟨320,8,l.map b_,1⟩)])
  (hK:∀s1:St,K (({ reg:=s.reg,own:=(s1.over [] [(5,g,⟨320,8,(da bO l).map b_,1⟩)]).own }:St).putR d (.tup []))) :
  Sm Tryz.prog lay.get s ⟨some d,.call ⟨.value (.func 314),#[x,z,c],tys⟩,ty,pos,af,none⟩ K:=by
 have hK2:∀(s1:St) (W:List BN),gi bO W->(∀c,dA bO c W=dA bO c l)->K (({ reg:=s.reg,own:=(s1.over [] [(5,g,⟨320,8,W.map b_,1⟩)]).own }:St).putR d (.tup [])):=fun s1 W hs hf=>by rw[BG hs hf];exact hK s1
 clear hK;rw[aM]at hx;have hds:∀ {W:List BN},(∀c,dA bO c W=dA bO c l)->∀p∈W,p.at'.sz 7000000:=fun hf p hp=>hd p (CF hf hp);obtain⟨N,hN⟩:∃N,N=l.length:=⟨_,O⟩;rw[<-hN]at hx hz hl;refine cB dY O O Tryz.func314 O Y O O ?_;show PWP _ _ _ _ (bJ s (([x,z,c]:List Operand).map s.ev++[]));rw[show(([x,z,c]:List Operand).map s.ev++([]:List PV))=[.als 5 g 0 N,I (N:Nat),.clo 302 []] by simp[hx,hz,hc]];rw[show bJ s [.als 5 g 0 N,I (N:Nat),.clo 302 []]=bJ (s.over [] [(5,g,⟨320,8,l.map b_,1⟩)]) [.als 5 g 0 N,I (N:Nat),.clo 302 []] by rw[Fit.over (l:=[]) ho]];clear ho hx hz hc;refine H ?_;refine ao (fun q:List BN × List BN=>Fk bO 20 q.1/\(q.1++q.2).length=N/\∀c,dA bO c (q.1++q.2)=dA bO c l) (fun q=>[(0,.als 5 g 0 N),(1,I (N:Nat)),(2,.clo 302 []),(6,I 20),(7,I (q.1.length:Nat)),(8,I (q.1.length+20:Nat))])
  (fun q=>[(5,g,⟨320,8,(q.1++q.2).map b_,1⟩)]) (fun q=>q.2.length) ([],l) ⟨.nil,hN.symm,fun c=>rfl⟩ ak ?_
 rintro⟨P,T⟩ s1 ⟨hP,hPT,hF⟩;dsimp only at hP hPT hF ⊢;rw[bT]at hPT;refine D ?_ ?_<;>intro h
 .have hlt:P.length+20<=N:=cP h;clear h;obtain⟨A,S,rfl,hA⟩:=HG (show 20<=T.length by omega);rw[bT]at hPT;rw[<-bt]at hF ⊢;have hw:IntKind.i64.wrap (((P.length+20:Nat):Int)+20)=((P.length+20+20:Nat):Int):=by rw[wrap_i64 J J];omega
  have hPA:P.length+20=(P++da bO A).length:=by rw[bT,fq,hA]
  (refine dN 3 ?_;refine aD 4 ?_)
  refine H ?_;refine aU O (y2 (N:=N) P A S aX J O O (congrArg (fun n:Nat=>I n) (show P.length+20=P.length+A.length by rw[hA])) O (fun p hp=>hds hF p (iq _ (gN _ hp))) ⟨O,bP⟩ fun s2=>?_);refine aE ?_;refine H ?_;refine⟨(P++da bO A,S),⟨.snoc hP (by rw[fq,hA]) (gH bO A),by simp[fq];omega,fun c=>by rw[<-hF c,aY,aY,n7,<-aY,<-aY]⟩,by simp;omega,O,O,O,O,congrArg (fun n:Nat=>I n) hPA,?_,O,bP⟩;dsimp only;rw[<-hPA];exact congrArg I hw
 have hge:¬P.length+20<=N:=cG h;clear h;rw[show P++T=P++T++[] from(cu _).symm]
 (refine dN 6 ?_;refine aD 4 ?_)
 refine H ?_;refine aU O (y2 (N:=N) P T [] aX J O O (congrArg (fun n:Nat=>I n) (show N=P.length+T.length by omega)) O (fun p hp=>hds hF p (gN _ hp)) ⟨O,bP⟩ fun s2=>?_);refine aE ?_;have hF2:∀c,dA bO c (P++da bO T)=dA bO c l:=fun c=>by rw[<-hF c,aY,aY,n7]
 have hB2:Bk bO 20 (P++da bO T):=CJ hP (.last (by rw[fq];omega) (gH bO T));have hR2:(P++da bO T).length=N:=by rw[bT,fq];exact hPT
 rw[show P++da bO T++[]=P++da bO T from cu _];generalize P++da bO T=R at *
 clear hP hF hge hPT;refine H ?_;refine ao (fun q:Nat × List BN=>0<q.1/\q.1<=800/\Bk bO q.1 q.2/\q.2.length=N/\∀c,dA bO c q.2=dA bO c l) (fun q=>[(0,.als 5 g 0 N),(1,I (N:Nat)),(2,.clo 302 []),(6,I (q.1:Nat))])
  (fun q=>[(5,g,⟨320,8,q.2.map b_,1⟩)]) (fun q=>N-q.1) (20,R) ⟨by show 0<20;omega,by show 20<=800;omega,hB2,hR2,hF2⟩ ak ?_
 clear hB2 hR2 hF2;rintro⟨b,R⟩ s3 ⟨hb0,hb8,hB,hR,hF⟩;dsimp only at hb0 hb8 hB hR hF ⊢;refine D ?_ ?_<;>intro h
 .have hbN:b<N:=cP h;clear h;have hw2:IntKind.i64.wrap (2*((b:Nat):Int))=((2*b:Nat):Int):=by rw[wrap_i64 J J];omega
  have hw3:IntKind.i64.wrap (((b:Nat):Int)*2)=((2*b:Nat):Int):=by rw[wrap_i64 J J];omega
  refine H ?_;rw[hw2];refine ao (fun q:List BN × List BN=>Fk bO (2*b) q.1/\Bk bO b q.2/\(q.1++q.2).length=N/\∀c,dA bO c (q.1++q.2)=dA bO c l) (fun q=>[(0,.als 5 g 0 N),(1,I (N:Nat)),(2,.clo 302 []),(6,I (b:Nat)),(7,I (q.1.length:Nat)),(8,I (q.1.length+2*b:Nat))])
   (fun q=>[(5,g,⟨320,8,(q.1++q.2).map b_,1⟩)]) (fun q=>q.2.length) ([],R) ⟨.nil,hB,hR,hF⟩ ⟨O,O,O,O,O,(congrArg (fun n:Nat=>I n) (show 2*b=([]:List BN).length+2*b by simp)),O,bP⟩ ?_
  clear hB hR hF;rintro⟨P,T⟩ s4 ⟨hP,hB,hR,hF⟩;dsimp only at hP hB hR hF ⊢;rw[bT]at hR;have hw1:IntKind.i64.wrap (((P.length:Nat):Int)+((b:Nat):Int))=((P.length+b:Nat):Int):=by rw[wrap_i64 J J];omega
  refine D ?_ ?_<;>intro h
  .have hlt:P.length+2*b<=N:=cP h;clear h;have hw4:IntKind.i64.wrap (((P.length+2*b:Nat):Int)+((2*b:Nat):Int))=((P.length+2*b+2*b:Nat):Int):=by rw[wrap_i64 J J];omega
   obtain⟨U,V,S,rfl,hU,hV,hsU,hsV,hBS⟩:=Hz hb0 hB J;rw[bT,bT]at hR;have e0:P++(U++V++S)=P++U++V++S:=by simp[bt]
   rw[e0]at hF ⊢
   (refine dN 10 ?_;refine aD 7 ?_)
   refine H ?_;rw[hw1];refine aU O (EH (U.length+V.length) (N:=N) P U V S (aH) (by intro e;rw[e]at hU;simp at hU;omega) (by intro e;rw[e]at hV;simp at hV;omega) hsU hsV (fun p hp=>hds hF p (iq _ (by rw[bt];exact gN _ hp))) aX J O O (congrArg (fun n:Nat=>I n) (show P.length+b=P.length+U.length by rw[hU])) (congrArg (fun n:Nat=>I n) (show P.length+2*b=P.length+U.length+V.length by omega)) O ⟨O,bP⟩ fun s5 W hpW hfW hsW=>?_);refine aE ?_;refine H ?_;have hWl:W.length=2*b:=by rw[hpW.length_eq,bT];omega
   have hPW:P.length+2*b=(P++W).length:=by rw[bT,hWl]
   refine⟨(P++W,S),⟨.snoc hP hWl hsW,hBS,by simp;omega,fun c=>by rw[<-hF c,aY,aY,hfW,aY,aY,aY,aY];simp[bt]⟩,by simp;omega,O,O,O,O,congrArg (fun n:Nat=>I n) hPW,?_,O,bP⟩;refine Eq.trans (b:=I (IntKind.i64.wrap (((P.length+2*b:Nat):Int)+IntKind.i64.wrap (2*((b:Nat):Int))))) O ?_;rw[hw2,hw4,hPW]
  have hge:¬P.length+2*b<=N:=cG h;clear h;refine H ?_;rw[hw1];refine cO O ?_ ?_<;>intro h
  .have hlt:P.length+b<N:=cP h;clear h;obtain⟨U,V,rfl,hU,hV,hV0,hsU,hsV⟩:=Fa hB J J;rw[bT]at hR;have e0:P++(U++V)=P++U++V++[]:=by simp[bt]
   rw[e0]at hF ⊢
   (refine dN 15 ?_;refine aD 5 ?_)
   refine H ?_;refine aU O (EH (U.length+V.length) (N:=N) P U V [] (aH) (by intro e;rw[e]at hU;simp at hU;omega) hV0 hsU hsV (fun p hp=>hds hF p (iq _ (by rw[bt];exact gN _ hp))) aX J O O (congrArg (fun n:Nat=>I n) (show P.length+b=P.length+U.length by rw[hU])) (congrArg (fun n:Nat=>I n) (show N=P.length+U.length+V.length by omega)) O ⟨O,bP⟩ fun s5 W hpW hfW hsW=>?_);refine aE ?_;refine H ?_;have hWl:W.length=U.length+V.length:=by rw[hpW.length_eq,bT]
   rw[show P++W++[]=P++W from cu _];refine⟨(2*b,P++W),⟨J,J,CJ hP (.last J hsW),by simp;omega,fun c=>by rw[<-hF c,aY,hfW,aY,aY,aY,aY,bt];simp[dA]⟩,by simp only;omega,O,O,O,congrArg I hw3,O,bP⟩
  .have hge2:¬P.length+b<N:=cG h;clear h;refine H ?_;refine⟨(2*b,P++T),⟨J,J,CJ hP (.last J (pU hB J)),by simp;omega,hF⟩,by simp only;omega,O,O,O,congrArg I hw3,O,bP⟩
 .have hge:¬b<N:=cG h;clear h;refine H ?_;exact eW O (hK2 s3 R (pU hB J) hF)
theorem Ep {K:St->Prop}{s:St}{d g:Nat}{x c:Operand}{tys:Array TypeId}{ty:TypeId}{pos:String}{af:Array Edge}(l:List BN)(hl:l.length<=400)
  (hx:s.ev x=.als 5 g 0 (l.map b_).length) (hc:s.ev c=.clo 302 [])
  (hd:∀p∈l,p.at'.sz 7000000)
  (ho:FitO s [(5,g,⟨320,8,l.map b_,1⟩)])
  (hK:∀s1:St,K (({ reg:=s.reg,own:=(s1.over [] [(5,g,⟨320,8,(da bO l).map b_,1⟩)]).own }:St).putR d (.tup []))) :
  Sm Tryz.prog lay.get s ⟨some d,.call ⟨.value (.func 301),#[x,c],tys⟩,ty,pos,af,none⟩ K:=by
 refine cB dY O O Tryz.func301 O Y O O ?_;show PWP _ _ _ _ (bJ s (([x,c]:List Operand).map s.ev++[]));rw[show(([x,c]:List Operand).map s.ev++([]:List PV))=[.als 5 g 0 (l.map b_).length,.clo 302 []] by simp[hx,hc]];rw[show bJ s [.als 5 g 0 (l.map b_).length,.clo 302 []]=bJ (s.over [] [(5,g,⟨320,8,l.map b_,1⟩)]) [.als 5 g 0 (l.map b_).length,.clo 302 []] by rw[Fit.over (l:=[]) ho]];have hen:(l.map b_).length=l.length:=by rw[aM]
 (refine dN 0 ?_;refine aD 4 ?_)
 refine H ?_;refine aU O (yt l hl O (congrArg (fun n:Nat=>I n) hen) O hd ⟨O,bP⟩ fun s2=>?_);refine aE ?_;refine H ?_;exact eW O (hK s2)
def zA:AR:=⟨RR.zero,RR.zero⟩
def HJ (a:AR)(F:List RR):List PV:=eA a++[.sl (F.map eR)]
def zS:List PV:=zN++zN++[.nil]
theorem WeakL.append {a b c d:List PV}(h1:WeakL a b)(h2:WeakL c d):WeakL (a++c) (b++d):=by
 induction h1 with
 |nil=>exact h2
 |cons h _ ih=>exact .cons h ih
theorem nz:WeakL (zN++zN) (eA zA):=jG.append jG
theorem nA:WeakL zS (HJ zA []):=nz.append (.cons .nil .nil)
structure SQ where
 a:AR
 F:List RR
 r:AR
 e:Int
def SQ.pv (q:SQ):PV := .tup [.agg (HJ q.a q.F),.agg (eA q.r),I q.e]
noncomputable def oH (b:BR):Rat × Rat:=((bd b).eqQ 150000).getD (0,0)
noncomputable def n6 (b:BR):SQ :=
 if df b=0 then
  if l8 b fi=true then⟨zA,[],fi,12⟩
  else match (ef b.l).find? (l8 b) with
   |some r=>⟨zA,[],r,13⟩
   |none=>if qt b (oH b).1 (oH b).2=true then⟨zA,[],zA,14⟩ else⟨⟨ofQ (oH b).1,ofQ (oH b).2⟩,FL b.l (oH b).1 (oH b).2,zA,0⟩
 else⟨zA,[],zA,df b⟩
def BR.Good (b:BR):Prop:=b.Lim/\(df b=0->b.Ok/\(bd b).SzT/\∀t,(nD b.l t).length<=54)
theorem p8 {b:BR}(hb:b.Ok)(hs:(bd b).SzT)(h:oo b):(bd b).eqQ 150000=some (oH b)/\(bd b).Bal (oH b).1 (oH b).2/\HQ (oH b).1 24000/\HQ (oH b).2 20000:=by
 obtain⟨x,h1,h2,h3⟩:=IQ hb hs h;have e:oH b=x:=by rw[oH,h1];rfl
 rw[e];exact⟨h1,h2,h3⟩
theorem AI {b:BR}(h1:¬l8 b fi=true)(h2:(ef b.l).find? (l8 b)=none):oo b:=by
 refine⟨by simpa using h1,fun r hr=>?_⟩;have:=List.find?_eq_none.1 h2 r hr;simpa using this
theorem BF (b:BR)(hb:b.Lim)(he:df b≠0):bb 54 [.agg (eB b)] (.tup [.agg zS,.agg (zN++zN),I (df b)]):=by
 have h1:=eP b hb;generalize df b=e at *
 refine ay Proofs.Tryz.func54 ?_;refine aB h1 ?_;refine D ?_ ?_<;>intro h
 .clear h;exact cy
 .exfalso;simp at h;exact he h
theorem qU (b:BR)(hb:b.Lim)(h0:df b=0)(r:AR)(e:Int)(he:e≠0)(h93:bb 119 [.agg (eB b)] (.tup [.agg (eA r),I e])):bb 54 [.agg (eB b)] (.tup [.agg zS,.agg (eA r),I e]):=by
 have h1:=eP b hb;rw[h0]at h1;clear h0 hb;refine ay Proofs.Tryz.func54 ?_;refine aB h1 ?_;refine G h93 ?_;refine D ?_ ?_<;>intro h
 .clear h;refine H ?_;refine cY [2,3] [3,4] aN ?_;refine H ?_;exact cy
 .exfalso;simp at h;exact he h
theorem wY (b:BR)(hb:b.Lim)(h0:df b=0)(h93:bb 119 [.agg (eB b)] (.tup [.agg (zN++zN),I 0]))(a:AR)(h120:bb 120 [.agg (eB b)] (.agg (eA a)))
  (h121:bb 121 [.agg (eB b),.agg (eA a)] (.bool true)):bb 54 [.agg (eB b)] (.tup [.agg zS,.agg (zN++zN),I 14]):=by
 have h1:=eP b hb;rw[h0]at h1;clear h0 hb;refine ay Proofs.Tryz.func54 ?_;refine aB h1 ?_;refine G h93 ?_;refine G h120 ?_;refine aB h121 ?_;exact cy
theorem BE (b:BR)(hb:b.Lim)(h0:df b=0)(h93:bb 119 [.agg (eB b)] (.tup [.agg (zN++zN),I 0]))(a:AR)(F:List RR)(h120:bb 120 [.agg (eB b)] (.agg (eA a)))
  (h121:bb 121 [.agg (eB b),.agg (eA a)] (.bool false)) (h23:bb 122 [.sl (b.l.map eS),.agg (eA a)] (.tup [.sl (F.map eR),I 0])):bb 54 [.agg (eB b)] (.tup [.agg (HJ a F),.agg (zN++zN),I 0]):=by
 have h1:=eP b hb;rw[h0]at h1;clear h0 hb;refine ay Proofs.Tryz.func54 ?_;refine aB h1 ?_;refine G h93 ?_;refine G h120 ?_;refine aB h121 ?_;refine G h23 ?_;exact cy
theorem Gn (l:List BN)(hl:l.length<=54):SortC l:=⟨fun hx hc hd ho hK=>Ep l J hx hc hd ho hK⟩
theorem HM {b:BR}(hb:b.Ok)(hs:(bd b).SzT)(h40:∀t,(nD b.l t).length<=54)(hS:∀t,SortC (nD b.l t))(h:oo b):bb 120 [.agg (eB b)] (.agg (eA ⟨ofQ (oH b).1,ofQ (oH b).2⟩)) :=
 AG b hb h40 hS (fun t=>Bd.enough (k9 hb) t (lY h)) Y (p8 hb hs h).1
theorem solve_retS (b:BR)(hg:b.Good)(hS:df b=0->∀t,SortC (nD b.l t)):bb 54 [.agg (eB b)] (n6 b).pv:=by
 rw[n6];by_cases h0:df b=0
 .rw[if_pos h0];obtain⟨hb,hs,h40⟩:=hg.2 h0;have h93:=wJ b hb;rw[nc]at h93;by_cases h1:l8 b fi=true
  .rw[if_pos h1]at h93 ⊢;exact(qU b hg.1 h0 fi 12 Y h93).weak (WeakL.refl _) (WeakL.tup (.cons nA.agg (WeakL.refl _)))
  .rw[if_neg h1]at h93 ⊢;cases h2:(ef b.l).find? (l8 b) with
   |some r =>
    rw[h2]at h93;exact(qU b hg.1 h0 r 13 Y h93).weak (WeakL.refl _) (WeakL.tup (.cons nA.agg (WeakL.refl _)))
   |none =>
    rw[h2]at h93;have hn:=AI h1 h2;have h120:=HM hb hs h40 (hS h0) hn;obtain⟨_,hbal,hz,ht⟩:=p8 hb hs hn;have va:Va ⟨ofQ (oH b).1,ofQ (oH b).2⟩ (oH b).1 (oH b).2 24000 20000:=⟨Vq.ofQ (h:=hz),Vq.ofQ (h:=ht)⟩;have h121:=A8 b hb ⟨ofQ (oH b).1,ofQ (oH b).2⟩ (ha:=va) Y;dsimp only;cases hl:qt b (oH b).1 (oH b).2 with
    |true =>
     rw[hl]at h121;exact(wY b hg.1 h0 h93 _ h120 h121).weak (WeakL.refl _) (WeakL.tup (.cons nA.agg (.cons nz.agg (WeakL.refl _))))
    |false =>
     rw[hl]at h121;have h23:=qd b.l hb.lim.l hb.chkL ⟨ofQ (oH b).1,ofQ (oH b).2⟩ (ha:=va) Y;exact(BE b hg.1 h0 h93 _ _ h120 h121 h23).weak (WeakL.refl _) (WeakL.tup (.cons (.rfl _) (.cons nz.agg (WeakL.refl _))))
 .rw[if_neg h0];exact(BF b hg.1 h0).weak (WeakL.refl _) (WeakL.tup (.cons nA.agg (.cons nz.agg (WeakL.refl _))))
theorem xw (n:Nat)(hn:n<18446744073709551616):bb 132 [.int .u64 (n:Nat)] (.sl ((aq n).map eU)):=by
 refine ay Proofs.Tryz.func132 ?_
 ((repeat (first|refine bg ?_ | refine d_ ?_ | refine dK ?_ | refine dT ?_));refine bV ?_)
 refine m9 O trivial ?_
 ((repeat (first|refine bg ?_ | refine d_ ?_ | refine dK ?_ | refine dT ?_));refine bV ?_)
 (first|refine aC (j4 218 1 0 O O ?_)|refine aC (j3 218 1 0 O O ?_))
 refine H ?_;refine ao (fun q:Nat × List UInt16=>(aq n=q.2++aq q.1/\q.1<18446744073709551616)/\q.1*65536^q.2.length<=n) (fun q=>[(0,.int .u64 (q.1:Nat)),(3,.als 3 (1+q.2.length) 0 (q.2.map eU).length)]) (fun q=>[(3,1+q.2.length,⟨218,1,q.2.map eU,0⟩)]) (fun q=>q.1) (n,[]) ⟨⟨O,hn⟩,aj⟩ ak ?_;rintro⟨m,L⟩ s ⟨⟨hL,hmn⟩,hb⟩;simp only at hL hb hmn;dsimp only;refine D ?_ ?_<;>intro h
 .have hm:0<m:=cP h;clear h;have hLl:L.length<4:=by
   rcases aT L.length 4 with h|h
   .exact h
   .exfalso;have h1:65536^4<=65536^L.length:=fb Y h;have h2:=dr (show 1<=m by omega) h1;have:1*65536^4=18446744073709551616:=Y;omega
  have hL2:=qr hL hm;have hb2:m/65536*65536^(L++[UInt16.ofNat m]).length<=n:=by
   rw[bT,tq,cn,b0 (65536^_),<-bS];exact bz (cm _ (o5 _ _)) hb
  have ha:=GT m hmn;have hcv:IntKind.u16.wrap ((m-m/65536*65536:Nat):Int)=((UInt16.ofNat m).toNat:Int):=by rw[wrap_u16,bh,bh];omega
  refine H ?_;rw[ha,hcv];refine bX O O (gW O O O O O O O O O O ak O) ?_;refine aC (cQ 0 O O O O O O O O O O O ak jM O O aX aX ?_);refine H ?_;refine⟨(m/65536,L++[UInt16.ofNat m]),⟨⟨hL2,by simp only;omega⟩,hb2⟩,by simp only;omega,?_,?_,?_,bP⟩
  .show PV.int .u64 ((m:Int)/2^(16:Int).toNat)=PV.int .u64 ((m/65536:Nat):Int);rw[show((2:Int)^(16:Int).toNat)=65536 by decide];congr 1
  .exact oN eU 3 1 L (UInt16.ofNat m)
  .exact mu eU 1 218 1 0 L (UInt16.ofNat m)
 .have hm:m=0:=cG h;subst hm;clear h;rw[bN,cu]at hL;rw[hL];refine H ?_;exact jL O O O ⟨O,O,O⟩ O
theorem Ce (z:Int)(hz:i64 z):bb 59 [I z] (.agg (eI (dQ z))):=by
 obtain⟨h0,h1⟩:=hz;have hn:=xw z.natAbs J;by_cases hz:z<0
 .rw[dQ,decide_eq_true hz];have w1:=An (z+1);have w2:=An (0-(z+1));have w3:IntKind.u64.wrap (0-(z+1))=0-(z+1):=wrap_u64 J J;have w4:IntKind.u64.wrap (0-(z+1)+1)=((z.natAbs:Nat):Int):=by rw[wrap_u64 J J];omega
  generalize aq z.natAbs=A,((z.natAbs:Nat):Int)=na at *
  refine ay Proofs.Tryz.func59 ?_;refine D ?_ ?_<;>intro h
  .clear h;refine H ?_;rw[w1];refine H ?_;rw[w2];refine H ?_;rw[w3];refine H ?_;rw[w4];refine G hn ?_;exact cy
  .exact absurd hz (cJ h)
 .rw[dQ,decide_eq_false hz];have w:IntKind.u64.wrap z=((z.natAbs:Nat):Int):=by rw[wrap_u64 J J];omega
  generalize aq z.natAbs=A at *
  refine ay Proofs.Tryz.func59 ?_;refine D ?_ ?_<;>intro h
  .exact absurd (bK h) hz
  .clear h;refine H ?_;rw[w];refine yd O O O hn O O ?_;exact cy
theorem bW_ret (z:Int)(hz:i64 z):bb 19 [I z] (.agg (eR (ofQ (z:Rat)))):=by
 have h1:=Ce z hz;have h2:=Ce 1 ⟨Y,Y⟩;rw[wc];generalize dQ z=X,dQ 1=Y0 at *
 refine ay Proofs.Tryz.func19 ?_;refine G h1 ?_;refine G h2 ?_;exact cy
theorem sB (a:RI)(ha:a.l.length<=1000000000):bb 62 [.agg (eI a),.agg (eI a)] (.bool true):=by
 obtain⟨n,l⟩:=a;simp only at ha;have hml:(l.map eU).length=l.length:=aj;have hnn:(n != n)=false:=by cases n<;>rfl
 have main:∀nn:Bool,nn=n->bb 62 [.agg [.bool nn,.sl (l.map eU)],.agg [.bool nn,.sl (l.map eU)]] (.bool true):=by
  intro nn _;cases nn <;>
  .refine ay Proofs.Tryz.func62 ?_;refine D ?_ ?_<;>intro h
   .simp at h
   clear h;refine H ?_;refine ao (fun k=>k<=l.length) (fun k=>[(2,.ptr 2 1 0 0),(3,.ptr 3 1 0 0),(5,I (k:Nat))]) (fun _=>[(2,1,⟨39,2,[eI ⟨_,l⟩],2⟩),(3,1,⟨39,2,[eI ⟨_,l⟩],2⟩)]) (fun k=>l.length-k) 0 (aF _) ak ?_;intro k s hk;refine D ?_ ?_<;>intro h
   .have hlt:k<l.length:=by have:=bK h;simp only[aM]at this;omega
    clear h;obtain⟨x,hx⟩:=aK hlt;have hw:=im k;refine dg 11 [27,28,29,30,31,32,33,34,35,36,37] ?_;refine aZ hx ?_;refine aZ hx ?_;refine D ?_ ?_<;>intro h
    .simp at h
    clear h;refine H ?_;exact⟨k+1,hlt,J,O,O,congrArg I hw,ak⟩
   .exact rq
 exact main n O
def RR.le (x:RR)(n:Nat):Prop:=x.n.l.length<=n/\x.d.l.length<=n
theorem sameR_ret (x:RR)(hx:x.le 1000000000):bb 21 [.agg (eR x),.agg (eR x)] (.bool true):=by
 have h1:=sB x.n hx.1;have h2:=sB x.d hx.2;obtain⟨xn,xd⟩:=x;refine ay Proofs.Tryz.func21 ?_;refine aB h1 ?_;refine aB h2 ?_;exact rq
theorem sameA_ret (a:AR)(hz:a.z.le 1000000000)(ht:a.t.le 1000000000):bb 15 [.agg (eA a),.agg (eA a)] (.bool true):=by
 have h1:=sameR_ret a.z hz;have h2:=sameR_ret a.t ht;obtain⟨z,t⟩:=a;refine ay Proofs.Tryz.func15 ?_;refine aB h1 ?_;refine aB h2 ?_;exact rq
def Js (l:List SR):Prop:=l.length<=9223372036854775807/\∀s∈l,s.k.S.length<=9223372036854775807/\s.k.M.length<=9223372036854775807
open Go.Proofs Go.RowKit
theorem Ghost.takeD {s:St}{k g t n sz:Nat}{T:TypeId}{rows:List (List PV)}(ho:s.own k=(g,some ⟨T,sz,rows,1⟩))(hr:s.reg t=.als k g 0 n)(hn:n=rows.length) :
  Ghost s ((s.setOwn k (g+1) none).putR t (.sl rows)):=by
 intro C a w hX ⟨γ,h⟩;subst hn;obtain⟨h1,hle,_⟩:=h.drop hX ho;refine⟨γ,h1.defers,h1.size,fun r=>?_,h1.sites,h1.inj,h1.base,h1.below,h1.top,h1.kept⟩;show Rep _ (bif Nat.beq r t then _ else(s.setOwn k (g+1) none).reg r) _;by_cases hrt:r=t
 .subst hrt;have hp:=h.regs r;rw[hr]at hp;simp only[jh,cond_true];refine .d ?_;rcases h.als_at hp ho with⟨q1,_,q3,q4⟩|⟨b,cap,cur,q1,q2,q3,q4,q5,q6,q7⟩
  .have:rows=[]:=(h.sites k _ (by rw[ho])).emp q1;rw[this,q4];exact .sl0 _ _
  .obtain⟨cur',g1,g2,g3,g4,g5⟩:=h.site_at ho q1 (h.cells_sz ho q1 q3 q6);have hb:(ai C γ (s.setOwn k (g+1) none) w).ok b:=by
    have hbase:=h.base k _ b (by rw[ho]) q1;refine⟨hbase.2,fun hx=>?_,fun k' c' hc' hb'=>?_⟩
    .have:=hX b hx;omega
    .by_cases hk':k'=k
     .subst hk';rw[ah]at hc';cases hc'
     .rw[ar hk']at hc';exact hk' (h.inj k' k c' _ b hc' (by rw[ho]) hb' q1)
   rw[q2];simp only[fT];refine .sl rows b 0 cap sz (fun i j=>cur'.getD (i*sz+j) undef) hb g2 q4 g4 (fun i j row pv e1 e2=>?_) (fun i j row pv e1 e2=>?_)
   .obtain⟨u,f1,f2,_⟩:=g5 i j row pv e1 e2;have g1:w.heap[b]?=some (.cells cur' T (0,0)):=g1;show w.cell? _=_/\_;rw[bc g1,aG,f1];simp[f1,f2]
   .obtain⟨u,f1,_,f3⟩:=g5 i j row pv e1 e2;have hu:cur'.getD (i*sz+j) undef=u:=by simp[f1]
    simp only[hu];exact hle.drep f3
 .rw[bR hrt];exact h1.regs r
end Go.Pv
namespace Go.Pv
open Go.RowKit Go.ChangeShapes Go.WideShapes Go.ChangeAt
section
variable {H0:Type}{enc:TypeId × Value->H0}{P:Program}{L:b9}{w:World}{sp:Nat->Bool}{held:Bool}
def xt (L:b9)(T:TypeId)(c:PV):Prop:=match L T with
 |some r=>bif r.sh.agg then ∃cs,c=.agg cs/\pG L 12 T cs else pG L 12 T [c]
 |none=>False
theorem Cc (hL:iW P L){base:Nat}{T:TypeId}{v:Value}{d:DataW H0}{ps:List MemPlace}(hp:gU L 12 T=true)(h:DataW.Trod enc P w 0 sp held T v d ps)(hok:Value.okWide P w .any base T v):∃c,DRep w (fun b=>b<w.heap.size) c v/\xt L T c:=by
 obtain⟨fuel,h⟩:=h;obtain⟨pvs,h1,h2⟩:=q9 hL 12 T _ fuel _ hp h;have hp':=hp;simp only[gU]at hp;split at hp
 .rename_i r hr;have hfit:=hL T r hr;have leaf:r.sh.agg=false->(∃c,pvs=[c])->(v.cells.toList.length=1->v.cells=#[v])->∃c,DRep w (fun b=>b<w.heap.size) c v/\xt L T c:=by
   rintro ha ⟨c,rfl⟩ hv;have hc:=hv (by rw[<-h1.1];rfl);have hd:=h1.2 0 c v O (by rw[hc];rfl);refine⟨c,hd.1,?_⟩;unfold xt;rw[hr];simp only[ha,cond_false];exact h2
  have nagg:(∀cs,v ≠ .agg cs)->v.cells=#[v]:=by
   intro h;cases v<;>first|rfl|exact absurd O (h _)
  have hty:∃r',L T=some r'/\_:=h2;obtain⟨r',hr',hty⟩:=hty;rw[hr]at hr';have hr':=bk hr';subst hr';split at hp
  .rename_i hs;rw[hs]at hty;obtain⟨b,rfl⟩:=hty;obtain⟨b',rfl⟩:∃b',v=.bool b':=by
    have:=okWide_bool (ra hfit hs) hok;exact this
   exact leaf (by rw[hs];rfl) ⟨_,O⟩ (fun _=>rfl)
  .rename_i k hs;rw[hs]at hty;obtain⟨m,rfl,_⟩:=hty;obtain⟨m',rfl⟩:=okWide_int (nw hfit hs) hok;exact leaf (by rw[hs];rfl) ⟨_,O⟩ (fun _=>rfl)
  .rename_i hs;rw[hs]at hty;obtain⟨s,rfl,_⟩:=hty;obtain⟨s',rfl⟩:=okWide_string (kW hfit hs) hok;exact leaf (by rw[hs];rfl) ⟨_,O⟩ (fun _=>rfl)
  .rename_i e hs;rw[hs]at hty;obtain⟨rows,rfl,_⟩:=hty;obtain⟨a,l,c,rfl⟩:=okWide_slice (gZ hfit hs) hok;exact leaf (by rw[hs];rfl) ⟨_,O⟩ (fun _=>rfl)
  .rename_i fs hs;obtain⟨fs',hu,_⟩:=rb hfit hs;obtain⟨cs,rfl,_⟩:=okWide_struct hu hok;refine⟨.agg pvs,?_,?_⟩
   .have:=DRep.agg (w:=w) (ok:=fun b=>b<w.heap.size) pvs cs.toList h1.1 (fun i c v e1 e2=>(h1.2 i c v e1 e2).1);simpa using this
   .unfold xt;rw[hr];simp only[hs,Sh.agg,cond_true];exact⟨pvs,O,h2⟩
  .cases hp
 .cases hp
theorem rH (hL:iW P L){base:Nat}:∀(ts:List TypeId) (vs:List Value) (ds:List (DataW H0)) (ps:List MemPlace),ts.all (gU L 12)=true->DataW.TrodAll enc P w 0 sp held ts vs ds ps ->
  (∀(j:Nat) t v,ts[j]?=some t->vs[j]?=some v->Value.okWide P w .any base t v) ->
  ∃pargs:List PV,pargs.length=vs.length/\ts.length=vs.length/\ds.length=vs.length/\(∀(i:Nat) (c:PV) (v:Value),pargs[i]?=some c->vs[i]?=some v->DRep w (fun b=>b<w.heap.size) c v)/\∀(i:Nat) t c,ts[i]?=some t->pargs[i]?=some c->xt L t c
 |[],vs,ds,ps,_,h,_=>by
  obtain⟨rfl,rfl,_⟩:=trodAll_nil h;exact⟨[],O,O,O,fun i c v e=>by simp at e,fun i t c e=>by simp at e⟩
 |t::ts,vs,ds,ps,hp,h,hok=>by
  obtain⟨v,vs',d,ds',p,q,rfl,rfl,rfl,h1,h2⟩:=trodAll_cons h;simp only[kH,bj]at hp;obtain⟨c,g1,g2⟩:=Cc hL hp.1 h1 (hok 0 t v O O);obtain⟨pargs,e1,e2,e3,e4,e5⟩:=rH hL ts vs' ds' q hp.2 h2 (fun j t v a b=>hok (j+1) t v (by simpa using a) (by simpa using b));refine⟨c::pargs,by simp[e1],by simp[e2],by simp[e3],fun i c' v' a b=>?_,fun i t' c' a b=>?_⟩
  .cases i with
   |zero=>simp at a b;subst a;subst b;exact g1
   |succ i=>exact e4 i c' v' (by simpa using a) (by simpa using b)
  .cases i with
   |zero=>simp at a b;subst a;subst b;exact g2
   |succ i=>exact e5 i t' c' (by simpa using a) (by simpa using b)
theorem law_stepW [Globs](hL:iW P L)(hl:laidOutB P=true){f:FuncId}{fn:Func}{s:ChangeSpec}{ts:List TypeId}{T:TypeId}(hvars:s.vars=[])(hts:fn.params.toList=ts)(hplain:ts.all (gU L 12)=true)
  (hread:ts.all (fun t=>P.readableRec t&&decide (t<P.types.size))=true) (hres:fn.resultTypes=#[T]) (hT:P.underlying T=some .bool)
  (hspec:∀ds:List (DataW H0),ds.length=ts.length->(s.fn H0 ds).results=[.lit (.bool true)]/\(s.fn H0 ds).args=ds/\(s.fn H0 ds).vars=[])
  (law:∀pargs:List PV,pargs.length=ts.length->(∀(i:Nat) t c,ts[i]?=some t->pargs[i]?=some c->xt L t c)->Ret P .shared f pargs (.bool true))
  {W:World} {base:Nat} {args:Array Value} {ds gs:List (DataW H0)} {before:List MemPlace} (hval:∀(j:Nat) t v,fn.params[j]?=some t->args[j]?=some v->Value.okWide P W .any base t v)
  (hglob:Globs.glob W) (hW:DataW.Whole enc P fn.params.toList s.vars false W args.toList ds gs before) :
  Calls P f args W fun e W'=>∃v,e=.returned v/\s.post enc P fn false true false false W args v W':=by
 have hW':=hW;obtain⟨p,q,hA,hV,hpq,hfz,hnd⟩:=hW;rw[hvars]at hV;obtain⟨rfl,rfl⟩:=trodVars_none hV;rw[hts]at hA;obtain⟨pargs,e1,e2,e3,e4,e5⟩:=rH hL (base:=base) ts _ _ _ hplain hA (fun j t v a b=>hval j t v (by rw[<-hts]at a;simpa using a) (by simpa using b));have hret:=law pargs J e5;have hcall:=hret.2 W (fun _=>False) args.toList hglob (fun b hb=>hb.elim) J (fun i c v a b=>(e4 i c v a b).weaken fun b hb=>⟨hb,fun h=>h⟩);have hargs:args.toList.toArray=args:=aj;rw[hargs]at hcall;refine hcall.mono ?_;rintro e W' ⟨v,rfl,hb,hd⟩;refine⟨v,O,?_⟩;have hv:v=.bool true:=by cases hd;rfl
 subst hv;have hlt:∀x∈p,x.block<W.heap.size:=fun x hx=>by
  have:=hW'.lt x (by rw[hpq];simp[hx]);simpa using this
 obtain⟨s1,s2,s3⟩:=hspec ds J;have hgs:ds++([]:List (DataW H0))=ds:=cu ds;refine⟨ds,[],before,[],p,[],hW',?_,?_,?_,World.keptBut_mono (fun x hx=>hx.elim) (hb.frame (fun _=>False)),fun h=>by cases h⟩
 .rw[hgs,s1,hres];exact trodAll_mk1 (shut_bool hT true)
 .rw[hgs,s2,hts];exact lA hl hb ts _ _ _ (fun t ht=>by
   have:=bx.1 hread t ht
   simpa using this) hA hlt
 .rw[hgs,s3,hvars];exact O
end
end Go.Pv
set_option maxHeartbeats 2000000
namespace Go.Pv
attribute [local irreducible] PWP POps PQuiet PSem XThen XBlock RetPost InlPost
open Go.Proofs
theorem kR {α:Type}{f:α->List PV}{p:α->Prop}:∀ {rows:List (List PV)},(∀row∈rows,∃x,row=f x/\p x)->∃l:List α,rows=l.map f/\∀x∈l,p x
 |[],_=>⟨[],rfl,fun x h=>by cases h⟩
 |row::rows,h=>by
  obtain⟨x,rfl,hx⟩:=h row aj;obtain⟨l,rfl,hl⟩:=kR (rows:=rows) fun r hr=>h r (by simp[hr]);exact⟨x::l,O,fun y hy=>by
   rcases cw.1 hy with rfl|hy
   .exact hx
   .exact hl y hy⟩
theorem De {n:Nat}(h:n<=maxLen):n<=9223372036854775807:=by
 have e:maxLen=9223372036854775807:=Y;omega
theorem oQ {n:Nat}{cs:List PV}(h:pG lay.get (n+1) 3 cs):∃z:Int,cs=eN z/\i64 z:=by
 obtain⟨m,rfl,h1,h2⟩:=xg h O;exact⟨m,O,h1,h2⟩
theorem vf {n:Nat}{cs:List PV}(h:pG lay.get (n+2) 57 cs):∃l:List Int,cs=[.sl (l.map eN)]/\l.length<=9223372036854775807/\∀z∈l,i64 z:=by
 obtain⟨rows,rfl,hlen,hr⟩:=uI h O;obtain⟨l,rfl,hz⟩:=kR (f:=eN) (p:=i64) fun row hrow=>oQ (hr row hrow);exact⟨l,O,by rw[aM]at hlen;exact De hlen,hz⟩
structure ArgB (b:BR):Prop where
 w:i64 b.w
 len:Js b.l
 data:Iy b.l
abbrev EW:=List UInt8
def iL {α:Type}:List α->(Nat->α->Int)->Int
 |[],_=>0
 |a::l,f=>if f 0 a=0 then iL l (fun i=>f (i+1)) else f 0 a
theorem qe {α:Type}:∀ {l:List α} {f:Nat->α->Int} {i:Nat} {a:α},l[i]?=some a->f i a≠0->(∀j b,j<i->l[j]?=some b->f j b=0)->iL l f=f i a
 |[],f,i,a,h,_,_=>by simp at h
 |b::l,f,0,a,h,he,_=>by
  simp at h;subst h;simp[iL,he]
 |b::l,f,i+1,a,h,he,hn=>by
  have h0:=hn 0 b J O;rw[iL,if_pos h0];exact qe (f:=fun i=>f (i+1)) (by simpa using h) he fun j c hj hc=>hn (j+1) c J (by simpa using hc)
theorem rW {α:Type}:∀ {l:List α} {f:Nat->α->Int},(∀(j:Nat) b,l[j]?=some b->f j b=0)->iL l f=0
 |[],f,_=>rfl
 |b::l,f,hn=>by
  rw[iL,if_pos (hn 0 b O)];exact rW fun j c hc=>hn (j+1) c (by simpa using hc)
theorem nJ {α:Type}:∀ {l:List α} {f:Nat->α->Int},iL l f=0->∀(j:Nat) b,l[j]?=some b->f j b=0
 |[],f,_,j,b,h=>by simp at h
 |a::l,f,h,j,b,hb=>by
  rw[iL]at h;split at h
  .rename_i hz;cases j with
   |zero=>simp at hb;subst hb;exact hz
   |succ j=>exact nJ h j b (by simpa using hb)
  .contradiction
def ClearE {α:Type}(l:List α)(f:Nat->α->Int)(k:Nat):Prop:=k<=l.length/\∀j b,j<k->l[j]?=some b->f j b=0
theorem ClearE.zero' {α:Type}{l:List α}{p:Nat->α->Int}:ClearE l p 0:=⟨aF _,fun j b h=>by omega⟩
theorem ClearE.succ {α:Type}{l:List α}{p:Nat->α->Int}{k:Nat}{x:α}(h:ClearE l p k)(hx:l[k]?=some x)(hp:p k x=0):ClearE l p (k+1):=by
 have:=(bD hx).1;refine⟨this,fun j b hj hb=>?_⟩;rcases aT j k with hlt|hge
 .exact h.2 j b hlt hb
 .have:j=k:=J;subst this;rw[hx]at hb;cases hb;exact hp
theorem ClearE.found {α:Type}{l:List α}{p:Nat->α->Int}{k:Nat}{x:α}{e:Int}(h:ClearE l p k)(hx:l[k]?=some x)(hp:p k x=e)(he:e≠0):iL l p=e:=by
 subst hp;exact qe hx he h.2
theorem ClearE.none {α:Type}{l:List α}{p:Nat->α->Int}{k:Nat}(h:ClearE l p k)(hk:¬k<l.length):iL l p=0 :=
 rW fun j b hb=>h.2 j b (by have:=(bD hb).1;have:=h.1;omega) hb
def xR (c:UInt8):Bool:=(decide (97<=(c.toNat:Int))&&decide ((c.toNat:Int)<=122))||(decide (65<=(c.toNat:Int))&&decide ((c.toNat:Int)<=90))
def Hx (i:Nat)(c:UInt8):Bool:=!xR c&&(decide ((i:Int)=0)||(!decide ((c.toNat:Int)=45)&&(decide ((c.toNat:Int)<48)||decide (57<(c.toNat:Int)))))
def Cf (i:Nat)(c:UInt8):Int:=if Hx i c then 1 else 0
def fM (s:EW):Bool:=decide (1<=s.length)&&decide (s.length<=12)&&decide (iL s Cf=0)
def IP (c:UInt8):List PV:=[.int .u8 c.toNat]
def aR (n lo hi:Int):Bool:=decide (lo<=n)&&decide (n<=hi)
theorem bC (n lo hi:Int):bb 46 [I n,I lo,I hi] (.bool (aR n lo hi)):=by
 refine ay Proofs.Tryz.func46 ?_;refine fZ ?_ ?_<;>intro h
 .refine H ?_;exact jU O O (by simp[aR,bK h])
 .refine H ?_;exact jU O O (by simp[aR,h])
theorem lN (s:EW):bb 45 [.str s] (.bool (fM s)):=by
 refine ay Proofs.Tryz.func45 ?_
 repeat' (first|refine g_ O ?_|refine j8 O O (fun h=>?_) (fun h=>?_)|refine j7 O O (fun h=>?_) (fun h=>?_)|refine j5 O O (fun h=>?_) (fun h=>?_))
 .have:=bK h;exact jU O O (by simp[fM];omega)
 have h1:=cJ h;refine cO O ?_ ?_<;>intro h
 .have:=bK h;refine H ?_;exact jU O O (by simp[fM];omega)
 have h2:=cJ h;have hll:((s.map IP).length:Int)=s.length:=aj;have hb:s.length<=12:=J;clear h;refine H ?_;refine bX O O (I3 O O O O O O) ?_;refine H ?_;refine ao (ClearE s Cf) (fun k=>[(15,.fsl (s.map IP)),(16,I (s.map IP).length),(17,I k)]) (fun _=>[]) (fun k=>s.length-k) 0 .zero' ak ?_;intro k st hk;have hkl:=hk.1;refine D ?_ ?_<;>intro h
 .have hlt:k<s.length:=by simpa using h
  obtain⟨x,hx⟩:=aK hlt;have hkb:k<12:=J;clear h;refine H ?_;refine bX O O (F_ O O O O O J hx O) ?_;repeat (refine JP O ?_ ?_;· repeat' constructor)
  refine yb 100 [(3,I k),(4,.int .u8 x.toNat),(5,.bool (xR x)),(15,.fsl (s.map IP)),(16,I (s.map IP).length),(17,I k)] [] ?_ ?_
  .clear h1 h2 hll hb
   repeat' (first|refine g_ O ?_|refine j8 O O (fun h=>?_) (fun h=>?_)|refine j7 O O (fun h=>?_) (fun h=>?_)|refine j5 O O (fun h=>?_) (fun h=>?_))
   all_goals exact⟨O,O,(congrArg PV.bool (by clear hk hx;simp_all [xR]<;>omega)),O,O,O,bP⟩
  clear h1 h2 hll hb;intro s
  repeat' (first|refine g_ O ?_|refine j8 O O (fun h=>?_) (fun h=>?_)|refine j7 O O (fun h=>?_) (fun h=>?_)|refine j5 O O (fun h=>?_) (fun h=>?_))
  all_goals try (refine cO O (fun hc=>?_) (fun hc=>?_))
  all_goals repeat refine g_ O ?_
  all_goals first
   |(
    refine jU O O ?_;have hb:Cf k x=1:=by simp_all [Cf,Hx]<;>omega
    have:=hk.found hx hb J
    simp[fM,this])
   |(
    refine⟨k+1,hk.succ hx (by simp_all [Cf,Hx]<;>omega),J,O,O,?_,bP⟩
    exact cU J J)
 .refine H ?_;exact jU O O (by simp only[fM,hk.none (by simpa using h)];simp;omega)
structure ST where
 x:Int
 w:Int
 L:List Int
 H0:List Int
def eT (t:ST):List PV:=[I t.x,I t.w,.sl (t.L.map eN),.sl (t.H0.map eN)]
def mZ (t:ST):Int:=if (aR t.x (-1000000) 1000000&&aR t.w 1 100000)=true then 0 else 2
def uY (t u:ST):Int:=if t.x-u.x<=0 then 10 else if 2*(t.x-u.x)<t.w+u.w then 17 else 0
def ry (L:List Int)(i:Nat)(l:Int):Int:=if aR l 0 100000=true then(if 0<i/\l<=L.getD (i-1) 0 then 10 else 0) else 2
def BZ (_:Nat)(h:Int):Int:=if aR h 0 100000=true then 0 else 2
def lg (t:ST):Int:=if aR t.L.length 2 30=true/\(t.H0.length:Int)=(t.L.length:Int)-1 then(if iL t.L (ry t.L)=0 then iL t.H0 BZ else iL t.L (ry t.L)) else 11
def mb (t:ST)(u:Option ST):Int:=if mZ t=0 then(match u with
 |none=>lg t
 |some u=>if uY t u=0 then lg t else uY t u) else mZ t
theorem x_ {t:ST}(h:mZ t=0):(-1000000<=t.x/\t.x<=1000000)/\(1<=t.w/\t.w<=100000):=by
 rw[mZ]at h;split at h
 .rename_i h2;simp[aR]at h2;omega
 .omega
theorem lM {n:Nat}(h:aR (n:Int) 2 30=true):2<=n/\n<=30:=by
 simp[aR]at h;omega
theorem uB (t:ST)(hL:t.L.length<=9223372036854775807)(hH:t.H0.length<=9223372036854775807):bb 47 [.agg (eT t),.raw (.pointer none)] (I (mb t none)):=by
 have h1:=bC t.x (-1000000) 1000000;have h2:=bC t.w 1 100000;generalize hf:mb t none=E;cases hp1:aR t.x (-1000000) 1000000 with
 |false =>
  have hE:2=E:=by rw[<-hf,mb,mZ,hp1];rfl
  subst hE;rw[hp1]at h1;refine ay Proofs.Tryz.func47 ?_;refine aB h1 ?_;exact dL
 |true =>
 cases hp2:aR t.w 1 100000 with
 |false =>
  have hE:2=E:=by rw[<-hf,mb,mZ,hp1,hp2];rfl
  subst hE;rw[hp1]at h1;rw[hp2]at h2;refine ay Proofs.Tryz.func47 ?_;refine aB h1 ?_;refine aB h2 ?_;exact dL
 |true =>
 have hpt:mZ t=0:=by rw[mZ,hp1,hp2];rfl
 rw[hp1]at h1;rw[hp2]at h2;rw[mb,if_pos hpt]at hf;refine ay Proofs.Tryz.func47 ?_;refine aB h1 ?_;refine aB h2 ?_;refine H ?_;have hin:=bC t.L.length 2 30;have hml:((t.L.map eN).length:Int)=t.L.length:=aj;have hmh:((t.H0.map eN).length:Int)=t.H0.length:=aj;rw[hml];refine I7 O O O hin O O O ?_;by_cases c1:aR t.L.length 2 30=true
 rotate_left
 .rw[i_]at c1;rw[c1];have hE:11=E:=by rw[<-hf,lg,if_neg (by rw[c1];simp)]
  subst hE;exact dL
 obtain⟨g1,g2⟩:=lM c1;have hwl:=An ((t.L.length:Int)-1);rw[c1];refine H ?_;rw[hml,hmh,hwl];refine D ?_ ?_<;>intro h
 .have hE:11=E:=by rw[<-hf,lg,if_neg (fun g=>absurd g.2 (by simpa using h))]
  subst hE;exact dL
 have c2:(t.H0.length:Int)=(t.L.length:Int)-1:=by simpa using h
 clear h;rw[lg,if_pos ⟨c1,c2⟩]at hf;refine H ?_;rw[hml];refine ao (ClearE t.L (ry t.L)) (fun k=>[(2,.ptr 2 1 0 0),(59,.sl (t.L.map eN)),(60,I t.L.length),(61,I (k:Nat))]) (fun _=>[(2,1,⟨115,4,[eT t],2⟩)]) (fun k=>t.L.length-k) 0 .zero' ⟨O,O,by rw[<-hml];rfl,ak⟩ ?_;intro k s hk;have hkl:=hk.1;refine D ?_ ?_<;>intro h
 .have hlt:k<t.L.length:=cP h;clear h;obtain⟨x,hx⟩:=aK hlt;have h1:=bC x 0 100000;have hw:=im k;refine aZ hx ?_;refine aB h1 ?_;by_cases d1:aR x 0 100000=true
  rotate_left
  .have hv:ry t.L k x=2:=by rw[ry,if_neg d1]
   have hfl:=hk.found hx hv Y;have hE:2=E:=by rw[<-hf,hfl];rfl
   subst hE;rw[i_]at d1;rw[d1];exact dL
  rw[d1];refine fZ ?_ ?_<;>intro h
  rotate_left
  .have h0:k=0:=cG h;clear h;have hv:ry t.L k x=0:=by rw[ry,if_pos d1,if_neg J]
   refine H ?_;exact⟨k+1,hk.succ hx hv,J,O,O,O,congrArg I hw,O,bP⟩
  .have h0:0<k:=cP h;clear h;obtain⟨j,rfl⟩:∃j,k=j+1:=⟨k-1,J⟩;obtain⟨y,hy⟩:=aK (show j<t.L.length by omega);have hgy:t.L.getD j 0=y:=by rw[cH,hy];rfl
   have hwj:IntKind.i64.wrap (((j+1:Nat):Int)-1)=(j:Nat):=by rw[wrap_i64 J J];omega
   refine H ?_;rw[hwj];refine Gb O O O O O O O hy O ?_;refine D ?_ ?_<;>intro h
   .have hle:x<=y:=bK h;clear h;have hv:ry t.L (j+1) x=10:=by rw[ry,if_pos d1,if_pos ⟨J,by rw[gO,hgy];exact hle⟩]
    have hfl:=hk.found hx hv Y;have hE:10=E:=by rw[<-hf,hfl];rfl
    subst hE;exact dL
   .have hle:¬x<=y:=cJ h;clear h;have hv:ry t.L (j+1) x=0:=by rw[ry,if_pos d1,if_neg (fun g=>hle (by have:=g.2;rw[gO,hgy]at this;exact this))]
    refine H ?_;exact⟨j+1+1,hk.succ hx hv,J,O,O,O,congrArg I hw,O,bP⟩
 .have hge:¬k<t.L.length:=cG h;clear h;rw[hk.none hge,if_pos O]at hf;refine H ?_;rw[hmh];refine ao (ClearE t.H0 BZ) (fun k=>[(2,.ptr 2 1 0 0),(83,.sl (t.H0.map eN)),(84,I t.H0.length),(85,I (k:Nat))]) (fun _=>[(2,1,⟨115,4,[eT t],2⟩)]) (fun k=>t.H0.length-k) 0 .zero' ⟨O,O,by rw[<-hmh];rfl,ak⟩ ?_;intro k s hk;have hkl:=hk.1;refine D ?_ ?_<;>intro h
  .have hlt:k<t.H0.length:=cP h;clear h;obtain⟨x,hx⟩:=aK hlt;have h1:=bC x 0 100000;have hw:=im k;refine aZ hx ?_;refine aB h1 ?_;by_cases d1:aR x 0 100000=true
   .have hv:BZ k x=0:=by rw[BZ,if_pos d1]
    rw[d1];refine H ?_;exact⟨k+1,hk.succ hx hv,J,O,O,O,congrArg I hw,O,bP⟩
   .have hv:BZ k x=2:=by rw[BZ,if_neg d1]
    have hfl:=hk.found hx hv Y;have hE:2=E:=by rw[<-hf,hfl]
    subst hE;rw[i_]at d1;rw[d1];exact dL
  .have hge:¬k<t.H0.length:=cG h;clear h;rw[hk.none hge]at hf;subst hf;exact dL
theorem uC (t u:ST)(hu:mZ u=0)(hL:t.L.length<=9223372036854775807)(hH:t.H0.length<=9223372036854775807):bb 47 [.agg (eT t),.dref (eT u) 0] (I (mb t (some u))):=by
 have h1:=bC t.x (-1000000) 1000000;have h2:=bC t.w 1 100000;generalize hf:mb t (some u)=E;cases hp1:aR t.x (-1000000) 1000000 with
 |false =>
  have hE:2=E:=by rw[<-hf,mb,mZ,hp1];rfl
  subst hE;rw[hp1]at h1;refine ay Proofs.Tryz.func47 ?_;refine aB h1 ?_;exact dL
 |true =>
 cases hp2:aR t.w 1 100000 with
 |false =>
  have hE:2=E:=by rw[<-hf,mb,mZ,hp1,hp2];rfl
  subst hE;rw[hp1]at h1;rw[hp2]at h2;refine ay Proofs.Tryz.func47 ?_;refine aB h1 ?_;refine aB h2 ?_;exact dL
 |true =>
 have hpt:mZ t=0:=by rw[mZ,hp1,hp2];rfl
 rw[hp1]at h1;rw[hp2]at h2;rw[mb,if_pos hpt]at hf;obtain⟨⟨a1,a2⟩,a3,a4⟩:=x_ hpt;obtain⟨⟨b1,b2⟩,b3,b4⟩:=x_ hu;have k1:=An (t.x-u.x);have k2:=An (2*(t.x-u.x));have k3:=An (t.w+u.w);refine ay Proofs.Tryz.func47 ?_;refine aB h1 ?_;refine aB h2 ?_;refine dg 8 [22,23,24,25,26,27,28,5] ?_;refine H ?_;rw[k1];refine D ?_ ?_<;>intro h
 .have d1:t.x-u.x<=0:=bK h;clear h;have hb:uY t u=10:=by rw[uY,if_pos d1]
  have hE:10=E:=by rw[<-hf,hb];rfl
  subst hE;exact dL
 have d1:¬t.x-u.x<=0:=cJ h;clear h;refine dg 11 [33,34,35,36,37,38,39,40,41,42,32] ?_;refine H ?_;rw[k2];refine H ?_;rw[k3];refine D ?_ ?_<;>intro h
 .have d2:2*(t.x-u.x)<t.w+u.w:=bK h;clear h;have hb:uY t u=17:=by rw[uY,if_neg d1,if_pos d2]
  have hE:17=E:=by rw[<-hf,hb];rfl
  subst hE;exact dL
 have d2:¬2*(t.x-u.x)<t.w+u.w:=cJ h;clear h;have hb:uY t u=0:=by rw[uY,if_neg d1,if_neg d2]
 rw[if_pos hb]at hf;clear k1 k2 k3 a1 a2 a3 a4 b1 b2 b3 b4 hb d1 d2 hu;refine H ?_;have hin:=bC t.L.length 2 30;have hml:((t.L.map eN).length:Int)=t.L.length:=aj;have hmh:((t.H0.map eN).length:Int)=t.H0.length:=aj;rw[hml];refine I7 O O O hin O O O ?_;by_cases c1:aR t.L.length 2 30=true
 rotate_left
 .rw[i_]at c1;rw[c1];have hE:11=E:=by rw[<-hf,lg,if_neg (by rw[c1];simp)]
  subst hE;exact dL
 obtain⟨g1,g2⟩:=lM c1;have hwl:=An ((t.L.length:Int)-1);rw[c1];refine H ?_;rw[hml,hmh,hwl];refine D ?_ ?_<;>intro h
 .have hE:11=E:=by rw[<-hf,lg,if_neg (fun g=>absurd g.2 (by simpa using h))]
  subst hE;exact dL
 have c2:(t.H0.length:Int)=(t.L.length:Int)-1:=by simpa using h
 clear h;rw[lg,if_pos ⟨c1,c2⟩]at hf;refine H ?_;rw[hml];refine ao (ClearE t.L (ry t.L)) (fun k=>[(2,.ptr 2 1 0 0),(59,.sl (t.L.map eN)),(60,I t.L.length),(61,I (k:Nat))]) (fun _=>[(2,1,⟨115,4,[eT t],2⟩)]) (fun k=>t.L.length-k) 0 .zero' ⟨O,O,by rw[<-hml];rfl,ak⟩ ?_;intro k s hk;have hkl:=hk.1;refine D ?_ ?_<;>intro h
 .have hlt:k<t.L.length:=cP h;clear h;obtain⟨x,hx⟩:=aK hlt;have h1:=bC x 0 100000;have hw:=im k;refine aZ hx ?_;refine aB h1 ?_;by_cases d1:aR x 0 100000=true
  rotate_left
  .have hv:ry t.L k x=2:=by rw[ry,if_neg d1]
   have hfl:=hk.found hx hv Y;have hE:2=E:=by rw[<-hf,hfl];rfl
   subst hE;rw[i_]at d1;rw[d1];exact dL
  rw[d1];refine fZ ?_ ?_<;>intro h
  rotate_left
  .have h0:k=0:=cG h;clear h;have hv:ry t.L k x=0:=by rw[ry,if_pos d1,if_neg J]
   refine H ?_;exact⟨k+1,hk.succ hx hv,J,O,O,O,congrArg I hw,O,bP⟩
  .have h0:0<k:=cP h;clear h;obtain⟨j,rfl⟩:∃j,k=j+1:=⟨k-1,J⟩;obtain⟨y,hy⟩:=aK (show j<t.L.length by omega);have hgy:t.L.getD j 0=y:=by rw[cH,hy];rfl
   have hwj:IntKind.i64.wrap (((j+1:Nat):Int)-1)=(j:Nat):=by rw[wrap_i64 J J];omega
   refine H ?_;rw[hwj];refine Gb O O O O O O O hy O ?_;refine D ?_ ?_<;>intro h
   .have hle:x<=y:=bK h;clear h;have hv:ry t.L (j+1) x=10:=by rw[ry,if_pos d1,if_pos ⟨J,by rw[gO,hgy];exact hle⟩]
    have hfl:=hk.found hx hv Y;have hE:10=E:=by rw[<-hf,hfl];rfl
    subst hE;exact dL
   .have hle:¬x<=y:=cJ h;clear h;have hv:ry t.L (j+1) x=0:=by rw[ry,if_pos d1,if_neg (fun g=>hle (by have:=g.2;rw[gO,hgy]at this;exact this))]
    refine H ?_;exact⟨j+1+1,hk.succ hx hv,J,O,O,O,congrArg I hw,O,bP⟩
 .have hge:¬k<t.L.length:=cG h;clear h;rw[hk.none hge,if_pos O]at hf;refine H ?_;rw[hmh];refine ao (ClearE t.H0 BZ) (fun k=>[(2,.ptr 2 1 0 0),(83,.sl (t.H0.map eN)),(84,I t.H0.length),(85,I (k:Nat))]) (fun _=>[(2,1,⟨115,4,[eT t],2⟩)]) (fun k=>t.H0.length-k) 0 .zero' ⟨O,O,by rw[<-hmh];rfl,ak⟩ ?_;intro k s hk;have hkl:=hk.1;refine D ?_ ?_<;>intro h
  .have hlt:k<t.H0.length:=cP h;clear h;obtain⟨x,hx⟩:=aK hlt;have h1:=bC x 0 100000;have hw:=im k;refine aZ hx ?_;refine aB h1 ?_;by_cases d1:aR x 0 100000=true
   .have hv:BZ k x=0:=by rw[BZ,if_pos d1]
    rw[d1];refine H ?_;exact⟨k+1,hk.succ hx hv,J,O,O,O,congrArg I hw,O,bP⟩
   .have hv:BZ k x=2:=by rw[BZ,if_neg d1]
    have hfl:=hk.found hx hv Y;have hE:2=E:=by rw[<-hf,hfl]
    subst hE;rw[i_]at d1;rw[d1];exact dL
  .have hge:¬k<t.H0.length:=cG h;clear h;rw[hk.none hge]at hf;subst hf;exact dL
structure LR where
 nm:List UInt8
 m:Int
 x:Int
 z:Int
 f:Int
def eLd (w:LR):List PV:=[.str w.nm,I w.m,I w.x,I w.z,I w.f]
def HX (w:LR)(least:Int):Bool:=aR w.m least 1000000000&&aR w.x (-1000000) 1000000&&aR w.z (-100000) 100000&&aR w.f 0 1000000000
def oJ (w:LR)(least:Int):Int:=if HX w least=true then 0 else 2
def qs (w:LR)(before:List LR)(least:Int):Int:=if fM w.nm=true then(if w.nm∈before.map (·.nm) then 5 else oJ w least) else 4
theorem oB (w:LR)(least:Int):bb 110 [.agg (eLd w),I least] (I (oJ w least)):=by
 have h1:=bC w.m least 1000000000;have h2:=bC w.x (-1000000) 1000000;have h3:=bC w.z (-100000) 100000;have h4:=bC w.f 0 1000000000;rw[oJ,HX];generalize aR w.m least 1000000000=p1,aR w.x (-1000000) 1000000=p2,aR w.z (-100000) 100000=p3,aR w.f 0 1000000000=p4 at *
 obtain⟨nm,m,x,z,f⟩:=w;simp only at *
 cases p1
 .refine ay Proofs.Tryz.func110 ?_;refine aB h1 ?_;exact dL
 .cases p2
  .refine ay Proofs.Tryz.func110 ?_;refine aB h1 ?_;refine aB h2 ?_;exact dL
  .cases p3
   .refine ay Proofs.Tryz.func110 ?_;refine aB h1 ?_;refine aB h2 ?_;refine aB h3 ?_;exact dL
   .cases p4;all_goals
     refine ay Proofs.Tryz.func110 ?_;refine aB h1 ?_;refine aB h2 ?_;refine aB h3 ?_;refine aB h4 ?_;exact dL
theorem r_ (z k:PV)(row:List PV)(rows:List (List PV)):gT z k (row::rows)=bif uL k row then row.getD 1 z else gT z k rows:=by
 simp only[gT,iD];cases uL k row
 .simp only[cond_false];cases iD k rows<;>rfl
 .rfl
theorem r9 (key v:PV)(row:List PV)(rows:List (List PV)):oI key v (row::rows)=bif uL key row then row.set 1 v::rows else row::oI key v rows:=by
 unfold oI;cases h:uL key row with
 |true=>simp[iD,h]
 |false =>
  simp only[iD,h,cond_false];cases hm:iD key rows with
  |none=>simp
  |some i =>
   have hi:=qy hm;simp[aQ hi]
theorem By [Globs]{P:Program}{L:b9}{s:St}{T:TypeId}{x y v:Operand}{ty:TypeId}{pos:String}{af:Array Edge}{K:St->Prop}(h:POp P L s ⟨none,.mapUpdate T x y v,ty,pos,af,none⟩ K):Sm P L s ⟨none,.insert T x y v,ty,pos,af,none⟩ K:=by
 intro C a w Q hG hs hN;have h2:Oper.wp P ⟨none,.mapUpdate T x y v,ty,pos,af,none⟩ a w (fun a' w'=>∃s',SimE C s' a' w'/\K s') Q:=POp.wp (o:=⟨none,.mapUpdate T x y v,ty,pos,af,none⟩) hG hs hN h fun s' _ _ h' hk=>⟨s',h',hk⟩;exact h2
def Hb (n:EW):List PV:=[.str n,.bool true]
theorem zy (d:EW):∀m:List EW,gT (.bool false) (.str d) (m.map Hb) = .bool (decide (d∈m))
 |[]=>by simp;rfl
 |e::m=>by
  rw[db,r_,zy d m];have:uL (.str d) (Hb e)=decide (e=d):=O;rw[this];by_cases h:e=d
  .have h2:d∈e::m:=by rw[h];exact fO
   rw[decide_eq_true h,decide_eq_true h2];rfl
  .rw[decide_eq_false h];have:decide (d∈e::m)=decide (d∈m):=by rw[decide_eq_decide,cw];exact⟨fun g=>g.resolve_left fun e'=>h e'.symm,.inr⟩
   rw[this];rfl
theorem zr (d:EW):∀m:List EW,d∉m->oI (.str d) (.bool true) (m.map Hb)=(m++[d]).map Hb
 |[],_=>rfl
 |e::m,h=>by
  have h1:¬e=d:=fun g=>h (by simp[g]);have h2:d∉m:=fun g=>h (ir _ g);rw[db,r9,zr d m h2];have:uL (.str d) (Hb e)=decide (e=d):=O;rw[this,decide_eq_false h1];rfl
theorem vP (m:List EW):jX .str (m.map Hb)=true:=by
 induction m with
 |nil=>rfl
 |cons e m ih=>rw[db];exact ih
structure SHP where
 nm:EW
 len:Int
 st:List ST
 light:LR
 it:List LR
def jT (s:SHP):List PV:=[.str s.nm,I s.len,.sl (s.st.map eT)]++eLd s.light++[.sl (s.it.map eLd)]
def JC (light:LR)(it:List LR)(i:Nat)(w:LR):Int:=qs w (light::it.take i) 0
def nQ (s:SHP):Int:=if qs s.light [] 1=0 then(if 60<s.it.length then 8 else iL s.it (JC s.light s.it)) else qs s.light [] 1
theorem pV (s:SHP)(h1:s.it.length<=9223372036854775807):bb 48 [.agg (jT s)] (I (nQ s)):=by
 have n0:=lN s.light.nm;have n1:=oB s.light 1;have hmi:(s.it.map eLd).length=s.it.length:=aM _;generalize hf:nQ s=E;rw[nQ]at hf;have hl:qs s.light [] 1=if fM s.light.nm=true then oJ s.light 1 else 4:=by rw[qs];simp
 rw[hl]at hf;clear hl;obtain⟨nm,len,st,light,it⟩:=s;simp only at *
 refine ay Proofs.Tryz.func48 ?_;refine aB n0 ?_;cases hn:fM light.nm with
 |false =>
  rw[hn]at hf;subst hf;exact dL
 |true =>
  rw[hn,if_pos O]at hf;refine aB n1 ?_;by_cases he:oJ light 1=0
  rotate_left
  .rw[if_neg he]at hf;generalize oJ light 1=e at *
   subst hf;refine D ?_ ?_<;>intro h
   .clear h;exact dL
   .simp at h;exact absurd h he
  rw[if_pos he]at hf;rw[he];refine H ?_;rw[hmi];refine cO O ?_ ?_<;>intro h
  .rw[if_pos (by have:=bK h;omega)]at hf;subst hf;exact dL
  have h60:¬60<it.length:=cG h;clear h;rw[if_neg h60]at hf
  (refine dN 8 ?_;refine aD 4 ?_)
  refine aC (FN O ?_);iterate 3 refine g_ O ?_
  refine bg ?_;refine aU O (By (ue 0 O O O O O O O O O O O O ?_));refine aE ?_;refine H ?_;rw[hmi];refine cA [(1,.ptr 1 1 0 0),(4,.mp 23 1),(29,.sl (it.map eLd)),(30,I it.length),(31,I ((0:Nat):Int))] [(1,1,⟨27,9,[jT ⟨nm,len,st,light,it⟩],2⟩),(23,1,⟨189,0,[Hb light.nm],0⟩)] ak ?_;intro s0;refine ao (ClearE it (JC light it)) (fun k=>[(1,.ptr 1 1 0 0),(4,.mp 23 1),(29,.sl (it.map eLd)),(30,I it.length),(31,I (k:Nat))]) (fun k=>[(1,1,⟨27,9,[jT ⟨nm,len,st,light,it⟩],2⟩),(23,1,⟨189,0,((light::it.take k).map (·.nm)).map Hb,0⟩)]) (fun k=>it.length-k) 0 .zero' ak ?_;intro k s1 hk;have hkl:=hk.1;refine D ?_ ?_<;>intro h
  .have hlt:k<it.length:=cP h;clear h;obtain⟨w,hx⟩:=aK hlt;have m0:=lN w.nm;have m1:=oB w 0;have hw:=im k;have hsn:(light::it.take (k+1)).map (·.nm)=(light::it.take k).map (·.nm)++[w.nm]:=by rw[bY hx];simp
   have hv:JC light it k w=if fM w.nm=true then(if w.nm∈(light::it.take k).map (·.nm) then 5 else oJ w 0) else 4:=O
   generalize (light::it.take k).map (·.nm)=D0 at *
   have hlook:=zy w.nm D0;obtain⟨wn,wm,wx,wz,wf⟩:=w;simp only at *
   refine aZ hx ?_;refine aB m0 ?_;cases hn2:fM wn with
   |false =>
    rw[hn2,if_neg Y]at hv;have hfl:=hk.found hx hv Y;rw[hfl]at hf;subst hf;exact dL
   |true =>
    rw[hn2,if_pos O]at hv;refine H ?_;refine bX O O (H7 O O O O O aN O O O O O (vP _)) ?_;rw[hlook];by_cases hd:wn∈D0
    .rw[if_pos hd]at hv;rw[decide_eq_true hd];have hfl:=hk.found hx hv Y;rw[hfl]at hf;subst hf;exact dL
    .rw[if_neg hd]at hv;rw[decide_eq_false hd];have hput:=zr wn D0 hd;refine H ?_;refine c9 (ue 0 O O O O O O O O O (vP _) O O ?_);refine aB m1 ?_;by_cases hz:oJ ⟨wn,wm,wx,wz,wf⟩ 0=0
     rotate_left
     .have hfl:=hk.found hx hv hz;rw[hfl]at hf;generalize oJ ⟨wn,wm,wx,wz,wf⟩ 0=e at *
      subst hf;refine D ?_ ?_<;>intro h
      .clear h;exact dL
      .simp at h;exact absurd h hz
     rw[hz]at hv;rw[hz];refine H ?_;refine⟨k+1,hk.succ hx hv,J,O,O,O,O,congrArg I hw,O,?_,bP⟩;rw[hsn,<-hput];rfl
  .have hge:¬k<it.length:=cG h;clear h;rw[hk.none hge]at hf;subst hf;exact dL
def wE (st:List ST)(i:Nat):Option ST:=if i=0 then none else st[i-1]?
def Gp (st:List ST)(i:Nat)(t:ST):Int:=mb t (wE st i)
def iS (s:SHP):Int:=if fM s.nm=true then(if aR s.len 1 1000000=true/\aR s.st.length 1 40=true then(if iL s.st (Gp s.st)=0 then nQ s else iL s.st (Gp s.st)) else 2) else 4
structure SHP.Len (s:SHP):Prop where
 st:s.st.length<=9223372036854775807
 it:s.it.length<=9223372036854775807
 L:∀t∈s.st,t.L.length<=9223372036854775807/\t.H0.length<=9223372036854775807
theorem Aa {t:ST}{u:Option ST}(h:mb t u=0):mZ t=0:=by
 unfold mb at h;split at h
 .assumption
 .assumption
theorem sj {st:List ST}{j:Nat}{u:ST}(h:st[j]?=some u):wE st (j+1)=some u:=by rw[wE,if_neg J,gO,h]
def E7 (st:List ST)(i:Nat):PV:=match wE st i with
 |none => .raw (.pointer none)
 |some u => .dref (eT u) 0
theorem rY {n:Nat}(h:aR (n:Int) 1 40=true):n<=40:=by
 simp[aR]at h;omega
theorem check2_ret (s:SHP)(hs:s.Len):bb 11 [.agg (jT s)] (I (iS s)):=by
 have n0:=lN s.nm;have n1:=bC s.len 1 1000000;have n2:=bC s.st.length 1 40;have hml:((s.st.map eT).length:Int)=s.st.length:=aj;have hld:=pV s hs.it;have hL:=hs.L;generalize hf:iS s=E;rw[iS]at hf;generalize nQ s=le at *
 obtain⟨nm,len,st,light,it⟩:=s;simp only at *
 refine ay Proofs.Tryz.func11 ?_;refine aB n0 ?_;cases hn:fM nm with
 |false =>
  rw[hn,if_neg Y]at hf;subst hf;exact dL
 |true =>
  rw[hn,if_pos O]at hf;refine aB n1 ?_;cases h1:aR len 1 1000000 with
  |false =>
   rw[h1,if_neg aj]at hf;subst hf;exact dL
  |true =>
   refine H ?_;rw[hml];refine I7 O O O n2 O O O ?_;cases h2:aR st.length 1 40 with
   |false =>
    rw[h2,if_neg aj]at hf;subst hf;exact dL
   |true =>
    have h40:=rY h2;rw[h1,h2,if_pos ⟨O,O⟩]at hf;refine H ?_;rw[hml];refine ao (ClearE st (Gp st)) (fun k=>[(1,.ptr 1 1 0 0),(3,E7 st k),(23,.sl (st.map eT)),(24,I st.length),(25,I (k:Nat))]) (fun _=>[(1,1,⟨27,9,[jT ⟨nm,len,st,light,it⟩],2⟩)]) (fun k=>st.length-k) 0 .zero' ak ?_;intro k s1 hk;have hkl:=hk.1;refine D ?_ ?_<;>intro h
    .have hlt:k<st.length:=cP h;clear h;obtain⟨t,hx⟩:=aK hlt;obtain⟨l1,l2⟩:=hL t (bG hx);have hw:=im k;have hnb:PV.dref (eT t) 0=E7 st (k+1):=by rw[E7,sj hx]
     have hc:bb 47 [.agg (eT t),E7 st k] (I (Gp st k t)):=by
      cases k with
      |zero=>exact uB t l1 l2
      |succ j =>
       obtain⟨u,hu⟩:=aK (show j<st.length by omega);rw[Gp,E7,sj hu];exact uC t u (Aa (hk.2 j u J hu)) l1 l2
     have hfb:(E7 st k=.raw (.pointer none))\/∃u,E7 st k=.dref (eT u) 0:=by
      rw[E7];cases wE st k with
      |none=>exact .inl rfl
      |some u=>exact .inr ⟨u,rfl⟩
     have hfl:=fun e (h:Gp st k t=e) (he:e≠0)=>hk.found hx h he;have hsu:=fun(h:Gp st k t=0)=>hk.succ hx h;generalize Gp st k t=e,E7 st k=bp at *
     rcases hfb with rfl|⟨u,rfl⟩
     .refine aZ hx ?_;refine aB hc ?_;refine D ?_ ?_<;>intro h
      .have he:e≠0:=by simpa using h
       clear h;rw[hfl e O he,if_neg he]at hf;subst hf;exact dL
      .have he:e=0:=by simpa using h
       clear h;refine aZ hx ?_;refine H ?_;exact⟨k+1,hsu he,J,O,hnb,O,O,congrArg I hw,O,bP⟩
     .refine aZ hx ?_;refine aB hc ?_;refine D ?_ ?_<;>intro h
      .have he:e≠0:=by simpa using h
       clear h;rw[hfl e O he,if_neg he]at hf;subst hf;exact dL
      .have he:e=0:=by simpa using h
       clear h;refine aZ hx ?_;refine H ?_;exact⟨k+1,hsu he,J,O,hnb,O,O,congrArg I hw,O,bP⟩
    .have hge:¬k<st.length:=cG h;clear h;rw[hk.none hge,if_pos O]at hf;subst hf;refine aB hld ?_;exact dL
theorem vh (d:Int):bb 174 [I d] (I (if aR d 900 1100=true then 0 else 2)):=by
 have h1:=bC d 900 1100;generalize aR d 900 1100=p at *
 cases p;all_goals
  refine ay Proofs.Tryz.func174 ?_;refine aB h1 ?_;exact dL
def jV (s:SHP)(d:Int):Int:=if iS s=0 then(if aR d 900 1100=true then 0 else 2) else iS s
theorem floated_ret (s:SHP)(hs:s.Len)(d:Int):bb 100 [.agg (jT s),I d] (I (jV s d)):=by
 have h1:=check2_ret s hs;have h2:=vh d;rw[jV];generalize (if aR d 900 1100=true then(0:Int) else 2)=e2,iS s=e at *
 by_cases he:e=0
 .subst he;rw[if_pos O];refine ay Proofs.Tryz.func100 ?_;refine aB h1 ?_;refine aB h2 ?_;exact dL
 .rw[if_neg he];refine ay Proofs.Tryz.func100 ?_;refine aB h1 ?_;refine D ?_ ?_<;>intro h
  .clear h;exact dL
  .simp at h;exact absurd h he
end Go.Pv
namespace Go.Proofs
open Go.Shelf
def Tryz.growL_ren:Go.Shelf.Ren:=⟨fun|4=>241|n=>n,fun|22=>25|25=>24|3=>3|4=>4|9=>9|20=>20|0=>0|n=>n,fun|n=>n⟩
theorem Tryz.growL:Go.Proofs.Lays8.n4 Tryz.prog Tryz.growL_ren:={
 mixed:=by kernel_rfl
 f4:=⟨Tryz.f241.name,by decide,Tryz.func241.trans (congrArg some (by kernel_rfl))⟩
 t0:=Tryz.underlying0
 a0:=Tryz.isAgg0
 z0:=Tryz.sizeOf0
 v0:=Tryz.zeroValue0
 t3:=Tryz.underlying3
 a3:=Tryz.isAgg3
 z3:=Tryz.sizeOf3
 v3:=Tryz.zeroValue3
 t4:=Tryz.underlying4
 a4:=Tryz.isAgg4
 z4:=Tryz.sizeOf4
 v4:=Tryz.zeroValue4
 t9:=Tryz.underlying9
 a9:=Tryz.isAgg9
 z9:=Tryz.sizeOf9
 v9:=Tryz.zeroValue9
 t20:=Tryz.underlying20
 a20:=Tryz.isAgg20
 z20:=Tryz.sizeOf20
 v20:=Tryz.zeroValue20
 t22:=Tryz.underlying25
 a22:=Tryz.isAgg25
 z22:=Tryz.sizeOf25
 v22:=Tryz.zeroValue25 }
end Go.Proofs
set_option maxHeartbeats 2000000
namespace Go.Pv
attribute [local irreducible] PWP POps PQuiet PSem XThen XBlock RetPost InlPost
open Go.Proofs Go.RowKit
theorem CP (n:Nat)(h0:1<=n)(hn:n<=1000000):RetO Tryz.prog 241 [.nil,I (n:Nat)] 24 5 []:=by
 refine⟨⟨_,Go.Proofs.Tryz.func241,Y,O⟩,fun w X args hg hX hl hargs=>?_⟩
 match args,hl with
 |[v0,v1],_ =>
  have e0:v0=.slice none 0 0:=by
   have:=hargs 0 .nil v0 O O;cases this;rfl
  have e1:v1=.int .i64 n:=by
   have:=hargs 1 (I (n:Nat)) v1 O O;cases this;rfl
  subst e0 e1;obtain⟨i0,d,hi,_,hs,hby,_,hz⟩:=LRow.spec (dY 24 _ O);obtain⟨z,hz0,hzs,_,_⟩:=hz _ O;have hs:i0.size=5:=hs;have hby:i0.bytes=48:=hby;have hzs:z.cells.size=5:=hzs;refine(Any8.slices_Grow_grow Tryz.growL i0 z hi hz0 J none 0 0 n [] w (aH) J (by rw[hby];omega) J aj (fun _=>rfl) (fun a h=>by cases h)).mono ?_;rintro e w' ⟨rfl,rfl⟩;have hge:=grownCap_ge w (0+n) 0 24;have hle:=grownCap_le_maxLen w (0+n) 0 24 (by unfold maxLen;omega);refine⟨_,O,?_,.inr ⟨w.heap.size,grownCap w (0+n) 0 24,_,aH,O,bi _ _,aF _,hle,?_,Y,aF _,fun row hr=>(by cases hr),fun i j row c hr=>(by simp at hr)⟩⟩
  .have hb:Below w.heap.size w w.drew:=Below.drew (Below.refl _ _);exact hb.alloc (aH) _
  .rw[tD,tD,size_zeroCells,size_zeroCells,hzs];show 0+(0+n-0)*5+(grownCap w (0+n) 0 24-(0+n))*5=grownCap w (0+n) 0 24*5;omega
def IV:Nat->Nat
 |0=>0
 |_+1=>1
theorem xA (A B:List LR)(hA:1<=A.length)(hl:A.length+B.length<=1000000):bb 179 [.sl ([A,B].map fun l=>[.sl (l.map eLd)])] (.sl ((A++B).map eLd)):=by
 have hg:=CP (A.length+B.length) J hl;generalize hL:[A,B]=LL;have hLl:LL.length=2:=by rw[<-hL];rfl
 have hml:((LL.map fun l=>[PV.sl (l.map eLd)]).length:Int)=LL.length:=aj;let sm (k:Nat):Nat:=((LL.take k).map List.length).sum;have s0:sm 0=0:=by simp[sm]
 have s2:sm LL.length=A.length+B.length:=by simp only[sm];rw[<-hL];simp
 have hsm:∀k,sm k<=1000000:=fun k=>by
  simp only[sm];rw[<-hL]
  match k with
  |0=>simp
  |1=>simp;omega
  |k+2=>simp;omega
 have hsn:∀k x,LL[k]?=some x->sm (k+1)=sm k+x.length:=fun k x hx=>by
  simp only[sm];rw[bY hx,bQ,List.sum_append];simp
 have hrn:∀k x,LL[k]?=some x->((LL.take (k+1)).flatten).map eLd=((LL.take k).flatten).map eLd++x.map eLd:=fun k x hx=>by
  rw[bY hx,List.flatten_append,bQ];simp
 have hrl:∀k,(((LL.take k).flatten).map eLd).length=sm k:=fun k=>by simp only[sm];rw[aM,List.length_flatten]
 have hend:LL.flatten=A++B:=by rw[<-hL];simp
 clear_value sm
 refine ay Proofs.Tryz.func179 ?_;refine H ?_;rw[hml];refine ao (fun k:Nat=>k<=LL.length) (fun k=>[(0,.sl (LL.map fun l=>[.sl (l.map eLd)])),(3,I (sm k:Nat)),(9,.sl (LL.map fun l=>[.sl (l.map eLd)])),(10,I LL.length),(11,I (k:Nat))]) (fun _=>[]) (fun k=>LL.length-k) 0 (aF _) ⟨O,by rw[s0];rfl,ak⟩ ?_;intro k s hk;refine D ?_ ?_<;>intro h
 .have hlt:k<LL.length:=cP h;clear h;obtain⟨x,hx⟩:=aK hlt;have hmx:((x.map eLd).length:Int)=x.length:=aj;have hs1:=hsn k x hx;have hs2:=hsm (k+1);have hw:=im k;have hws:IntKind.i64.wrap (((sm k:Nat):Int)+(x.length:Int))=((sm (k+1):Nat):Int):=by rw[wrap_i64 J J];omega
  refine aZ hx ?_;refine H ?_;rw[hmx,hws];refine H ?_;exact⟨k+1,hlt,J,O,O,O,O,congrArg I hw,bP⟩
 .have hge:k=LL.length:=cG h;clear h;subst hge;rw[s2]
  (refine dN 9 ?_;refine aD 1 ?_)
  refine g_ O ?_;refine bg ?_;refine aU O (Ej O hg O ak O ?_);refine aE ?_;refine H ?_;rw[hml];refine cA [(6,.als 24 ((s.own 24).1+1) 0 0),(25,.sl (LL.map fun l=>[.sl (l.map eLd)])),(26,I LL.length),(27,I ((0:Nat):Int))] [(24,(s.own 24).1+1,⟨24,5,[],0⟩)] ak ?_;generalize (s.own 24).1+1=g;intro s0;refine ao (fun k:Nat=>k<=LL.length) (fun k=>[(6,.als 24 (g+k) 0 (((LL.take k).flatten).map eLd).length),(25,.sl (LL.map fun l=>[.sl (l.map eLd)])),(26,I LL.length),(27,I (k:Nat))]) (fun k=>[(24,g+k,⟨24,5,((LL.take k).flatten).map eLd,IV k⟩)]) (fun k=>LL.length-k) 0 (aF _) ak ?_;intro k s1 hk;refine D ?_ ?_<;>intro h
  .have hlt:k<LL.length:=cP h;clear h;obtain⟨x,hx⟩:=aK hlt;have hs1:=hsn k x hx;have hs2:=hsm (k+1);have hr1:=hrn k x hx;have hr2:=hrl k;have hmx:(x.map eLd).length=x.length:=aj;have hw:=im k;generalize ((LL.take k).flatten).map eLd=R at *
   refine aZ hx ?_;refine H ?_;refine aC (cQ 1 O O O O O O O O O O O ak (by intro row hr;obtain⟨_,_,rfl⟩:=bF.1 hr;rfl) (by cases k<;>rfl) O (by rw[hr2,hmx];show _*48<=_;omega) (by rw[hr2,hmx];omega) ?_);refine H ?_;refine⟨k+1,hlt,J,?_,O,O,congrArg I hw,?_,bP⟩
   .rw[hr1];rfl
   .rw[hr1];rfl
  .have hge:k=LL.length:=cG h;clear h;subst hge;rw[bM,hend,show IV LL.length=1 by rw[hLl];rfl]
   (repeat ((fail_if_success (with_reducible refine fY ?_));refine Ab O ?_))
   refine ax (Ghost.takeD (k:=24) (t:=2) O O O) ?_;exact cy
theorem A7 (s:SHP)(hl:s.it.length<=100000):bb 108 [.agg (jT s)] (.sl ((s.light::s.it).map eLd)):=by
 have hc:=xA [s.light] s.it aj aX;rw[show [s.light]++s.it=s.light::s.it from O]at hc;obtain⟨nm,len,st,light,it⟩:=s;simp only at *
 refine ay Proofs.Tryz.func108 ?_
 (refine dN 1 ?_;refine aD 5 ?_)
 iterate 2 refine g_ O ?_
 refine aC (b8 1 O O O O O O O O O O O ak O ?_);iterate 2 refine g_ O ?_
 refine bg ?_;refine aU O (eM (Ghost.takeD (k:=5) (t:=5) O O O) (b8 1 O O O O O O O O O O O ak O ?_));refine aU O (eM (Ghost.takeD (k:=8) (t:=8) O O O) ?_)
 (refine l5 (eL O (hc) O ?_ O) ?_;.repeat' constructor)
 refine aE ?_;exact cy
open Go.Proofs
theorem ct (z:Int)(h:i64 z):bb 106 [I z] (.agg (eR (ofQ (z:Rat)))):=by
 have ho:=x5 z h.1 h.2;have hw:=ol (dQ z) (by have:=mV (z:=z) (by obtain⟨h1,h2⟩:=h;omega);omega);rw[dV]at hw;generalize ofQ (z:Rat)=X,dQ z=Z at *
 refine ay Proofs.Tryz.func106 ?_;refine G ho ?_;refine G hw ?_;exact cy
theorem lr (x y:RR){p q:Rat}{n m:Nat}[hx:Vq x p n][hy:Vq y q m](hn:n<=20000000)(hm:m<=20000000)(h0:q≠0):bb 176 [.agg (eR x),.agg (eR y)] (.agg (eR (ofQ (p/q)))):=by
 have hq:=wH x y hn hm;rw[if_neg h0]at hq;generalize ofQ (p/q)=X at *
 refine ay Proofs.Tryz.func176 ?_;refine G hq ?_;exact cy
structure OkW (w:LR):Prop where
 m:0<=w.m/\w.m<=1000000000
 x : -1000000<=w.x/\w.x<=1000000
 z : -100000<=w.z/\w.z<=100000
 f:0<=w.f/\w.f<=1000000000
theorem Do {w:LR}{l:Int}(hl:0<=l)(h:oJ w l=0):OkW w/\l<=w.m:=by
 rw[oJ]at h;split at h
 .rename_i h2;simp[HX,aR]at h2;exact⟨⟨J,J,J,J⟩,J⟩
 .omega
def sM (l:List LR):Int:=(l.map (·.m)).sum
def sF (l:List LR):Int:=(l.map (·.f)).sum
def sX (l:List LR):Int:=(l.map fun w=>w.m*w.x).sum
def sZ (l:List LR):Int:=(l.map fun w=>w.m*w.z).sum
theorem Dl {m x M X:Int}(hm:0<=m/\m<=M)(hx : -X<=x/\x<=X)(h0:0<=X) : -(M*X)<=m*x/\m*x<=M*X:=by
 have h1:m*x<=m*X:=th hx.2 hm.1;have h2:m*X<=M*X:=y9 hm.2 h0;have h3:m*(-X)<=m*x:=th hx.1 hm.1;rw[Int.mul_neg]at h3;omega
theorem OkW.mx {w:LR}(h:OkW w):(-1000000000000000<=w.m*w.x/\w.m*w.x<=1000000000000000) /\ -100000000000000<=w.m*w.z/\w.m*w.z<=100000000000000 :=
 ⟨Dl h.m h.x Y,Dl h.m h.z Y⟩
structure SumOk (l:List LR):Prop where
 m:0<=sM l/\sM l<=l.length*1000000000
 f:0<=sF l/\sF l<=l.length*1000000000
 x : -(l.length*1000000000000000:Int)<=sX l/\sX l<=l.length*1000000000000000
 z : -(l.length*100000000000000:Int)<=sZ l/\sZ l<=l.length*100000000000000
theorem nt:∀ {l:List LR},(∀w∈l,OkW w)->SumOk l
 |[],_=>⟨by simp[sM],by simp[sF],by simp[sX],by simp[sZ]⟩
 |w::l,h=>by
  have ih:=nt fun u hu=>h u (ir _ hu);have hw:=h w fO;obtain⟨⟨a1,a2⟩,a3,a4⟩:=hw.mx;obtain⟨⟨b1,b2⟩,_,_,b3,b4⟩:=hw;obtain⟨⟨c1,c2⟩,⟨c3,c4⟩,⟨c5,c6⟩,c7,c8⟩:=ih;have e1:sM (w::l)=w.m+sM l:=O;have e2:sF (w::l)=w.f+sF l:=O;have e3:sX (w::l)=w.m*w.x+sX l:=O;have e4:sZ (w::l)=w.m*w.z+sZ l:=O;have e5:((w::l).length:Int)=l.length+1:=aj;refine⟨?_,?_,?_,?_⟩
  .rw[e1,e5];omega
  .rw[e2,e5];omega
  .rw[e3,e5];omega
  .rw[e4,e5];omega
theorem ED {l:List LR}{k:Nat}{w:LR}(h:l[k]?=some w):sM (l.take (k+1))=sM (l.take k)+w.m/\sF (l.take (k+1))=sF (l.take k)+w.f/\sX (l.take (k+1))=sX (l.take k)+w.m*w.x/\sZ (l.take (k+1))=sZ (l.take k)+w.m*w.z:=by
 rw[bY h];simp[sM,sF,sX,sZ]
def J5 (m:Int)(x z:RR)(f:Int):List PV:=[I m]++eR x++eR z++[I f]
def EM (l:List LR):List PV:=J5 (sM l) (ofQ ((sX l:Rat)/(sM l:Rat))) (ofQ ((sZ l:Rat)/(sM l:Rat))) (sF l)
theorem total2_ret (s:SHP)(L:List LR)(hLe:L=s.light::s.it)(hL:∀w∈L,OkW w)(h1:1<=sM L)(hl:L.length<=61):bb 102 [.agg (jT s)] (.agg (EM L)):=by
 have hlo:=A7 s (by
  have:L.length=s.it.length+1:=by rw[hLe];rfl
  omega)
 rw[<-hLe]at hlo;have w0:=ct 0 ⟨Y,Y⟩;have hml:((L.map eLd).length:Int)=L.length:=aj;have hto:=nt hL;have hne:(sM L:Rat)≠0:=by
  have:sM L≠0:=J
  exact_mod_cast this
 obtain⟨⟨t1,t2⟩,⟨t3,t4⟩,⟨t5,t6⟩,t7,t8⟩:=hto;have zM:Zb (sM L):=aL J J;have zX:Zb (sX L):=aL J J;have zZ:Zb (sZ L):=aL J J;have wM:=ct (sM L) ⟨J,J⟩;have dX:=lr (ofQ (sX L:Rat)) (ofQ (sM L:Rat)) (hx:=Vq.ofQ (h:=HQ.int)) (hy:=Vq.ofQ (h:=HQ.int)) Y Y hne;have dZ:=lr (ofQ (sZ L:Rat)) (ofQ (sM L:Rat)) (hx:=Vq.ofQ (h:=HQ.int)) (hy:=Vq.ofQ (h:=HQ.int)) Y Y hne;have sk:=fun k=>nt (l:=L.take k) fun w hw=>hL w (gp hw);refine ay Proofs.Tryz.func102 ?_;refine G w0 ?_;refine G w0 ?_;refine G hlo ?_;refine H ?_;rw[hml];refine ao (fun k:Nat=>k<=L.length) (fun k=>[(2,.ptr 2 1 0 0),(3,.ptr 3 1 0 0),(4,.ptr 4 1 0 0),(5,.ptr 5 1 0 0),(11,.sl (L.map eLd)),(12,I L.length),(13,I (k:Nat))]) (fun k=>[(2,1,⟨69,10,[[I 0]++zN++zN++[I 0]],2⟩),(3,1,⟨69,10,[[I (sM (L.take k))]++zN++zN++[I (sF (L.take k))]],2⟩),(4,1,⟨41,4,[eR (ofQ (sX (L.take k):Rat))],2⟩),(5,1,⟨41,4,[eR (ofQ (sZ (L.take k):Rat))],2⟩)]) (fun k=>L.length-k) 0 (aF _) ak ?_;intro k s1 hk;refine D ?_ ?_<;>intro h
 .have hlt:k<L.length:=cP h;clear h;obtain⟨w,hx⟩:=aK hlt;have ow:=hL w (bG hx);obtain⟨⟨a1,a2⟩,a3,a4⟩:=ow.mx;have hsk:=sk k;have hsk2:=sk (k+1);have hl1:(L.take k).length<=100:=by rw[bI];omega
  have hl2:(L.take (k+1)).length<=100:=by rw[bI];omega
  obtain⟨⟨c1,c2⟩,⟨c3,c4⟩,⟨c5,c6⟩,c7,c8⟩:=hsk;obtain⟨⟨d1,d2⟩,⟨d3,d4⟩,⟨d5,d6⟩,d7,d8⟩:=hsk2;obtain⟨e1,e2,e3,e4⟩:=ED hx;have hw:=im k;have v1:IntKind.i64.wrap (sM (L.take k)+w.m)=sM (L.take (k+1)):=by rw[wrap_i64 J J];omega
  have v2:IntKind.i64.wrap (sF (L.take k)+w.f)=sF (L.take (k+1)):=by rw[wrap_i64 J J];omega
  have v3:=An (w.m*w.x);have v4:=An (w.m*w.z);have z1:Zb (sX (L.take k)):=aL J J;have z2:Zb (sZ (L.take k)):=aL J J;have z3:Zb (w.m*w.x):=aL J J;have z4:Zb (w.m*w.z):=aL J J;have u1:=ct (w.m*w.x) ⟨J,J⟩;have u2:=ct (w.m*w.z) ⟨J,J⟩;have g1:=dh (ofQ (sX (L.take k):Rat)) (ofQ ((w.m*w.x:Int):Rat)) (hx:=Vq.ofQ (h:=HQ.int)) (hy:=Vq.ofQ (h:=HQ.int)) Y Y;have g2:=dh (ofQ (sZ (L.take k):Rat)) (ofQ ((w.m*w.z:Int):Rat)) (hx:=Vq.ofQ (h:=HQ.int)) (hy:=Vq.ofQ (h:=HQ.int)) Y Y;rw[<-tQ,<-e3]at g1;rw[<-tQ,<-e4]at g2;clear c1 c2 c3 c4 c5 c6 c7 c8 d1 d2 d3 d4 d5 d6 d7 d8 e1 e2 e3 e4 z1 z2 z3 z4 a1 a2 a3 a4 hl1 hl2;refine aZ hx ?_;refine H ?_;rw[v1];refine H ?_;rw[v2];refine dg 8 [29,30,31,32,33,34,35,36] ?_;refine H ?_;rw[v3];refine yd O O O u1 O O ?_;refine G g1 ?_;refine dg 8 [37,38,39,40,41,42,43,44] ?_;refine H ?_;rw[v4];refine yd O O O u2 O O ?_;refine G g2 ?_;refine H ?_;exact⟨k+1,hlt,J,O,O,O,O,O,O,congrArg I hw,ak⟩
 .have hge:k=L.length:=cG h;clear h;subst hge;rw[bM];clear sk hne zM zX zZ;rw[EM];generalize ofQ ((sX L:Rat)/(sM L:Rat))=QX,ofQ ((sZ L:Rat)/(sM L:Rat))=QZ at *
  refine H ?_;refine cd [] [3] 11 [11,12,13] aN aN ?_;refine G wM ?_;refine G dX ?_;refine G wM ?_;refine G dZ ?_;exact cy
theorem mC {α:Type}{l:List α}{f:Nat->α->Int}(h:iL l f=0){i:Nat}{x:α}(hx:l[i]?=some x):f i x=0:=nJ h i x hx
structure ShipOk (s:SHP):Prop where
 len:s.st.length<=40
 st:∀i t,s.st[i]?=some t->Gp s.st i t=0
 ld:∀w∈s.light::s.it,OkW w
 m:1<=sM (s.light::s.it)
 n:s.it.length<=60
theorem vW {w:LR}{B:List LR}{l:Int}(h:qs w B l=0):oJ w l=0:=by
 rw[qs]at h;split at h
 .split at h
  .omega
  .exact h
 .omega
theorem pD {s:SHP}(h:iS s=0):ShipOk s:=by
 rw[iS]at h;split at h
 rotate_left
 .omega
 split at h
 rotate_left
 .omega
 rename_i hin;split at h
 rotate_left
 .contradiction
 rename_i hst;rw[nQ]at h;split at h
 rotate_left
 .contradiction
 rename_i hl;split at h
 .omega
 rename_i h60;obtain⟨o1,m1⟩:=Do Y (vW hl);have o2:∀w∈s.it,OkW w:=fun w hw=>by
  obtain⟨i,hi⟩:=j1.1 hw;exact(Do (mS 0) (vW (mC h hi))).1
 have hall:∀w∈s.light::s.it,OkW w:=fun w hw=>by
  rcases cw.1 hw with rfl|hw
  .exact o1
  .exact o2 w hw
 refine⟨rY hin.2,fun i t ht=>mC hst ht,hall,?_,J⟩;have:=(nt o2).m;have e:sM (s.light::s.it)=s.light.m+sM s.it:=O;omega
theorem A6 (s:SHP)(hs:s.Len)(h:iS s=0):bb 43 [.agg (jT s)] (.tup [.agg (EM (s.light::s.it)),I 0]):=by
 have h1:=check2_ret s hs;have ok:=pD h;have h2:=total2_ret s _ O ok.ld ok.m (by have:=ok.n;simp;omega);rw[h]at h1;rw[EM]at h2 ⊢;generalize ofQ ((sX (s.light::s.it):Rat)/(sM (s.light::s.it):Rat))=QX,ofQ ((sZ (s.light::s.it):Rat)/(sM (s.light::s.it):Rat))=QZ at *
 clear ok;refine ay Proofs.Tryz.func43 ?_;refine aB h1 ?_;refine G h2 ?_;exact cy
theorem yB (x y:RR){p q:Rat}{n m:Nat}(hx:Vq x p n)(hy:Vq y q m)(hn:n<=1000000)(hm:m<=1000000):bb 105 [.sl ([x,y].map eR)] (.agg (eR (ofQ (p*q)))):=by
 have w1:=ct 1 ⟨Y,Y⟩;have z1:Zb 1:=aL Y Y;have c1:=gu (ofQ ((1:Int):Rat)) x (hx:=Vq.ofQ (h:=HQ.int)) (hy:=hx) Y J;rw[show((1:Int):Rat)=1 from O,pr]at c1;rw[show((1:Int):Rat)=1 from O]at w1;have c2:=gu (ofQ p) y (hx:=Vq.ofQ (h:=hx.hq)) (hy:=hy) J J;have g0:([x,y]:List RR)[0]?=some x:=O;have g1:([x,y]:List RR)[1]?=some y:=O;generalize hl:[x,y]=l at *
 have hll:l.length=2:=by rw[<-hl];rfl
 have hml:((l.map eR).length:Int)=2:=by rw[<-hl];rfl
 generalize ofQ (p*q)=E,ofQ p=P,ofQ (1:Rat)=O0 at *
 clear hx hy hl;refine ay Proofs.Tryz.func105 ?_;refine G w1 ?_;refine H ?_;rw[hml];refine ao (fun k:Nat=>k<=2) (fun k=>[(2,.ptr 2 1 0 0),(3,.ptr 3 1 0 0),(7,.sl (l.map eR)),(8,I 2),(9,I (k:Nat))]) (fun k=>[(2,1,⟨41,4,[zN],2⟩),(3,1,⟨41,4,[eR (if k=0 then O0 else if k=1 then P else E)],2⟩)]) (fun k=>2-k) 0 (aF _) ak ?_;intro k s hk;refine D ?_ ?_<;>intro h
 .have hlt:k<2:=cP h;clear h
  match k,hlt with
  |0,_ =>
   refine H ?_;refine bX O O (ka (n:=((((0:Nat):Int)):Int)) O O O O O J g0 O) ?_;refine G c1 ?_;refine H ?_;exact⟨1,Y,Y,ak⟩
  |1,_ =>
   refine H ?_;refine bX O O (ka (n:=((((1:Nat):Int)):Int)) O O O O O J g1 O) ?_;refine G c2 ?_;refine H ?_;exact⟨2,Y,Y,ak⟩
 .have hge:k=2:=cG h;clear h;subst hge;exact cy
theorem A_ (x:RR){p:Rat}{n:Nat}[hx:Vq x p n](hn:n<=1000)(d:Nat)(h1:1<=d)(h2:d<=1000000000):bb 104 [.agg (eR x),I (d:Nat)] (.agg (eR (ofQ (p*((d:Rat)/1000000000))))):=by
 have zd:Zb (d:Int):=aL J J;have zb:Zb (1000000000:Int):=aL Y Y;have w1:=ct (d:Int) ⟨J,J⟩;have w2:=ct 1000000000 ⟨Y,Y⟩;have c1:=yB x (ofQ ((d:Int):Rat)) hx (Vq.ofQ (h:=HQ.int)) J Y;have hp:HQ (p*((d:Int):Rat)) (n+1+4):=@HQ.mul _ _ (n+1) 4 hx.hq HQ.int;have c2:=lr (ofQ (p*((d:Int):Rat))) (ofQ ((1000000000:Int):Rat)) (hx:=Vq.ofQ (h:=hp)) (hy:=Vq.ofQ (h:=HQ.int)) J Y aN;have e:p*((d:Int):Rat)/((1000000000:Int):Rat)=p*((d:Rat)/1000000000):=by
  rw[show((d:Int):Rat)=(d:Rat) from O,show((1000000000:Int):Rat)=1000000000 from O];grind
 rw[e]at c2;generalize ofQ (p*((d:Rat)/1000000000))=E,ofQ (p*((d:Int):Rat))=T,ofQ ((d:Int):Rat)=D0,ofQ ((1000000000:Int):Rat)=B at *
 clear hx hp;obtain⟨⟨xn,xl⟩,⟨yn,yl⟩⟩:=x;refine ay Proofs.Tryz.func104 ?_;refine H ?_;refine F8 ?_;iterate 3 all_goals ((first
  |refine j9 (i:=0) aN rfl ?_
  |refine j9 (i:=1) aN rfl ?_
  |refine j9 (i:=2) aN rfl ?_
  |refine DC (i:=0) (j:=1) aN rfl rfl ?_ ?_
  |refine DC (i:=0) (j:=2) aN rfl rfl ?_ ?_)<;>(refine aE ?_;(first|refine g_ rfl ?_ | (apply bX;exact rfl;exact rfl;exact JF rfl w1 rfl rfl));refine bg ?_))
 all_goals
  refine j9 (i:=3) aN O ?_;refine aE ?_;refine aC (b8 1 O O O O O O O O O O O ak O ?_);refine bg ?_;refine j9 (i:=4) aN O ?_;refine aU O (eM (Ghost.takeD (k:=8) (t:=8) O O O) ?_)
  (refine l5 (eL O (c1) O ?_ O) ?_;.repeat' constructor)
  refine aE ?_;refine bg ?_;refine j9 (i:=5) aN O ?_;refine aE ?_;refine yd O O O w2 O O ?_;refine bg ?_;refine j9 (i:=6) aN O ?_;refine aE ?_;refine yd O O O c2 O O ?_;refine bg ?_;refine j9 (i:=7) aN O ?_;refine aE ?_;refine g_ O ?_;refine bg ?_;refine⟨by decide +kernel,dK ?_⟩;exact cy
end Go.Pv
namespace Go.Pv
open Go.RowKit
variable [Globs]
variable {s:St}
theorem Ghost.freezeD {k gk k0 g0 i j n sz:Nat}{T:TypeId}{rows:List (List PV)}{c0:Cont}{row:List PV}(hk:Nat.beq k0 k=false)(ho:s.own k=(gk,some ⟨T,sz,rows,1⟩))(h0:s.own k0=(g0,some c0))(hkind:c0.kind=2)(hrow:c0.rows[i]?=some row)(hj:row[j]?=some (.als k gk 0 n))(hz0:Nat.blt 0 c0.sz=true)(hn:n=rows.length) :
  Ghost s ((s.setOwn k (gk+1) none).setOwn k0 g0 (some ⟨c0.ty,c0.sz,c0.rows.set i (row.set j (.sl rows)),2⟩)):=by
 intro C a w hX ⟨γ,h⟩;subst hn;have hne:k0≠k:=fun e=>by subst e;simp at hk
 obtain⟨h1,hle,-⟩:=h.drop hX ho;have ho1:(s.setOwn k (gk+1) none).own k0=(g0,some c0):=by rw[ar hne];exact h0
 have hsite:=h.sites k0 c0 (by rw[h0]);have hlt:=(bD hrow).1;have hlt2:=(bD hj).1;have hfr:∀v,Rep (ai C γ s w) (.als k gk 0 rows.length) v->Rep (ai C γ (s.setOwn k (gk+1) none) w) (.sl rows) v:=by
  intro v hp;refine .d ?_;rcases h.als_at hp ho with⟨q1,_,q3,q4⟩|⟨b,cap,cur,q1,q2,q3,q4,q5,q6,q7⟩
  .have:rows=[]:=(h.sites k _ (by rw[ho])).emp q1;rw[this,q4];exact .sl0 _ _
  .obtain⟨cur',g1,g2,g3,g4,g5⟩:=h.site_at ho q1 (h.cells_sz ho q1 q3 q6);have hb:(ai C γ (s.setOwn k (gk+1) none) w).ok b:=by
    have hbase:=h.base k _ b (by rw[ho]) q1;refine⟨hbase.2,fun hx=>?_,fun k' c' hc' hb'=>?_⟩
    .have:=hX b hx;omega
    .by_cases hk':k'=k
     .subst hk';rw[ah]at hc';cases hc'
     .rw[ar hk']at hc';exact hk' (h.inj k' k c' _ b hc' (by rw[ho]) hb' q1)
   rw[q2];simp only[fT];refine .sl rows b 0 cap sz (fun i j=>cur'.getD (i*sz+j) undef) hb g2 q4 g4 (fun i j row pv e1 e2=>?_) (fun i j row pv e1 e2=>?_)
   .obtain⟨u,f1,f2,_⟩:=g5 i j row pv e1 e2;have g1:w.heap[b]?=some (.cells cur' T (0,0)):=g1;show w.cell? _=_/\_;rw[bc g1,aG,f1];simp[f1,f2]
   .obtain⟨u,f1,_,f3⟩:=g5 i j row pv e1 e2;have hu:cur'.getD (i*sz+j) undef=u:=by simp[f1]
    simp only[hu];exact hle.drep f3
 have he:=iY (C:=C) (γ:=γ) (w:=w) (c1:=⟨c0.ty,c0.sz,c0.rows.set i (row.set j (.sl rows)),2⟩) ho1 O O aj;have hother:∀k',k'≠k0->((s.setOwn k (gk+1) none).setOwn k0 g0 (some ⟨c0.ty,c0.sz,c0.rows.set i (row.set j (.sl rows)),2⟩)).own k'=(s.setOwn k (gk+1) none).own k':=fun k' hk'=>ar hk';have hsome:∀k' c',(((s.setOwn k (gk+1) none).setOwn k0 g0 (some ⟨c0.ty,c0.sz,c0.rows.set i (row.set j (.sl rows)),2⟩)).own k').2=some c'->∃c'',((s.setOwn k (gk+1) none).own k').2=some c'':=by
  intro k' c' hc';by_cases hk':k'=k0
  .subst hk';exact⟨c0,by rw[ho1]⟩
  .rw[hother k' hk']at hc';exact⟨c',hc'⟩
 refine⟨γ,h1.defers,h1.size,fun r=>by rw[he];exact h1.regs r,fun k' c' hc'=>?_,fun k1 k2 c1 c2 b e1 e2 e3 e4=>?_,fun k' c' b e1 e2=>?_,h1.below,h1.top,fun c v hk=>by rw[he];exact h1.kept c v hk⟩
 .rw[he];by_cases hk':k'=k0
  .subst hk';rw[ah]at hc';have hc':=bk hc';subst hc';have hz0:0<c0.sz:=by simpa using hz0
   refine⟨fun hb=>?_,(fun b _ hz=>by simp only at hz;omega),(fun b _ hz=>by simp only at hz;omega),fun b hb _=>?_⟩
   .have:=hsite.emp hb;rw[this]at hrow;simp at hrow
   .obtain⟨cur,f1,f2,f3,f4,f5⟩:=hsite.at_ b hb hz0;refine⟨cur,f1,f2,by simpa using f3,fun r hr=>?_,fun i' j' row1 pv1 e1 e2=>?_⟩
    .rcases mG hr with hr|rfl
     .exact f4 r hr
     .simpa using f4 row (bG hrow)
    .by_cases hi:i'=i
     .subst hi;rw[dl hlt]at e1;have e1:=bk e1;subst e1;by_cases hjj:j'=j
      .subst hjj;rw[dl hlt2]at e2;have e2:=bk e2;subst e2;obtain⟨v,u1,u2,u3⟩:=f5 i' j' row _ hrow hj;rw[hkind]at u3;exact⟨v,u1,u2,hfr v u3⟩
      .rw[cV (Ne.symm hjj)]at e2;obtain⟨v,u1,u2,u3⟩:=f5 i' j' row pv1 hrow e2;rw[hkind]at u3;exact⟨v,u1,u2,Rep.mono hle u3⟩
     .rw[cV (Ne.symm hi)]at e1;obtain⟨v,u1,u2,u3⟩:=f5 i' j' row1 pv1 e1 e2;rw[hkind]at u3;exact⟨v,u1,u2,Rep.mono hle u3⟩
  .rw[hother k' hk']at hc';exact h1.sites k' c' hc'
 .obtain⟨d,hd⟩:=hsome k1 c1 e1;obtain⟨d',hd'⟩:=hsome k2 c2 e2;exact h1.inj k1 k2 d d' b hd hd' e3 e4
 .obtain⟨d,hd⟩:=hsome k' c' e1;exact h1.base k' d b hd e2
end Go.Pv
set_option maxHeartbeats 2000000
namespace Go.Pv
attribute [local irreducible] PWP POps PQuiet PSem XThen XBlock RetPost InlPost
open Go.Proofs
theorem pW (l:List Int)(hl:l.length<=1000000000):Ret Tryz.prog .fresh 111 [.sl (l.map eN)] (.sl (l.map eN)):=by
 refine ay Proofs.Tryz.func111 ?_
 (refine dN 1 ?_;refine aD 1 ?_)
 refine g_ O ?_;refine bg ?_;refine aU O (kT dY O O O (fun h0=>?_) ?_)
 .rw[h0];refine aE ?_
  (repeat ((fail_if_success (with_reducible refine fY ?_));refine Ab O ?_))
  refine ax (Ghost.nilfs (t:=2) O) ?_;refine H ?_;exact vo O O O trivial O
 .refine aE ?_;refine H ?_;refine aC (b8 0 O O O O O O O O O O O ak O ?_);refine H ?_;refine aC (cQ 1 O O O O O O O O O O O ak (by intro row hr;obtain⟨p,_,rfl⟩:=bF.1 hr;rfl) O O aX aX ?_)
  (repeat ((fail_if_success (with_reducible refine fY ?_));refine Ab O ?_))
  refine ax (Ghost.takeF (k:=5) (t:=2) l O O O O (fun _=>rfl)) ?_;refine H ?_;exact vo O O O ak O
def rA (x:RR):RR:=ofQ x.val
def Cq (x:SR):SR:=⟨x.x,rA x.c,⟨x.k.S,x.k.M.map rA⟩⟩
def Ji (ch:SR->SR)(b:BR):BR:=⟨b.w,rA b.a,b.l.map fun x=>ch (Cq x)⟩
theorem rX {L:b9}{fn:Func}{K:(Nat->Nat × Option Cont)->PV->Prop}{s:St}(owns:List (Nat × Nat × Cont))(h:fn.results.toList=[])(ho:FitO s owns)(hk:∀s1:St,K (s1.over [] owns).own (.tup [])):InlPost L fn (fun s' r=>K s'.own r) .normal s:=by
 have hk:=hk s;rw[Fit.over (l:=[]) ho]at hk;exact eW h hk
structure ChOk (f:FuncId) (caps:List PV) (ch:SR->SR) (x:SR):Prop where
 run:∀ {K:St->Prop} {s:St} {d g g4 g5 g400:Nat} {c4 c5 c400:Cont} {c a:Operand} {tys:Array TypeId} {ty:TypeId} {pos:String} {af:Array Edge},s.ev c=.clo f caps->s.ev a=.ptr 8 g 0 0 ->
 FitO s [(8,g,⟨196,7,[eS x],2⟩),(4,g4,c4),(5,g5,c5),(400,g400,c400)] ->
 (∀s1:St,K (({ reg:=s.reg,own:=(s1.over [] [(8,g,⟨196,7,[eS (ch x)],2⟩),(4,g4,c4),(5,g5,c5),(400,g400,c400)]).own }:St).putR d (.tup []))) ->
 Sm Tryz.prog lay.get s ⟨some d,.call ⟨.value c,#[a],tys⟩,ty,pos,af,none⟩ K
theorem FB (x:SR):ChOk 117 [] id x:=by
 constructor;intro K s d g g4 g5 g400 c4 c5 c400 c a tys ty pos af hc ha ho hK;refine cB dY O hc Tryz.func117 O Y O O ?_;show PWP _ _ _ _ (bJ s (([a]:List Operand).map s.ev++[]));have hk:=hK s;simp only[id_eq]at hk;rw[Fit.over (l:=[]) ho]at hk;refine H ?_;exact eW O hk
theorem iC {α β:Type}{f:α->β}{l:List α}{k:Nat}{x:α}(h:l[k]?=some x):(l.take (k+1)).map f=(l.take k).map f++[f x]:=by rw[bY h,bQ];rfl
theorem xB (b:BR)(hb:b.Lim)(h12:b.l.length<=1000)(hM:∀s∈b.l,s.k.M.length<=1000)(cl:FuncId)(caps:List PV)(ch:SR->SR)(hch:∀s∈b.l,ChOk cl caps ch (Cq s)) :
  bb 116 [.agg (eB b),.clo cl caps] (.agg (eB (Ji ch b))):=by
 have h1:=FE b.a (hx:=hb.a.v) Y;have hml:(b.l.map eS).length=b.l.length:=aj;obtain⟨w,ba,l⟩:=b;simp only at *
 have hll:=hb.l.1;rw[show ofQ ba.val=rA ba from O]at h1;clear hb;generalize hG:(fun x=>ch (Cq x))=G0;rw[Ji,hG];generalize rA ba=A0 at *
 refine ay Proofs.Tryz.func116 ?_;refine H ?_;refine cp [(6,5),(7,5)] aN aN ?_;refine G h1 ?_;refine H ?_;refine ax (Ghost.nilcell (k:=400) (k0:=5) (i:=0) (j:=5) (row:=I w::(eR A0++[.nil])) 196 7 1 O O O O O O O) ?_;refine ao (fun i:Nat=>i<=l.length) (fun i=>[(1,.clo cl caps),(4,.ptr 4 1 0 0),(5,.ptr 5 1 0 0),(18,.sl (l.map eS)),(19,I l.length),(20,I (i:Nat))])
  (fun i=>[(4,1,⟨128,6,[I 0::(zN++[.nil])],2⟩),(5,1,⟨128,6,[I w::(eR A0++[.als 400 (1+i) 0 (((l.take i).map G0).map eS).length])],2⟩),(400,1+i,⟨196,7,((l.take i).map G0).map eS,1⟩)]) (fun i=>l.length-i) 0 (aF _) ⟨O,O,O,O,by rw[<-hml];rfl,ak⟩ ?_
 intro i s hi;refine D ?_ ?_<;>intro h
 .have hlt:i<l.length:=cP h;clear h;obtain⟨x,hx⟩:=aK hlt;have hxm:=bG hx;have hxl:=hll x hxm;have hcx:=hch x hxm;have hMx:=hM x hxm;have hrow:=iC (f:=G0) hx;have hil:((l.take i).map G0).length<=1000:=by rw[aM,bI];omega
  have hw:=im i;have hGx:G0 x=ch (Cq x):=by rw[<-hG]
  generalize G0 x=y,(l.take i).map G0=B at *
  have e1:=FE x.c (hx:=hxl.c.v) Y;rw[show ofQ x.c.val=rA x.c from O]at e1;have e2:=(pW x.k.S hxl.k.ls).shared_of_fresh;have e3:∀m∈x.k.M,bb 182 [.agg (eR m)] (.agg (eR (rA m))):=fun m hm=>FE m (hx:=(hxl.k.m m hm).v) Y;have hmm:(x.k.M.map eR).length=x.k.M.length:=aj;obtain⟨xx,xc,xS,xM⟩:=x;simp only[Cq]at *
  generalize rA xc=XC at *
  refine aZ hx ?_;refine dN 5 ?_;refine ax (jW 8) ?_;refine cp [(11,8),(12,8)] aN aN ?_;refine G e1 ?_;refine G e2 ?_;refine H ?_;refine cA [(1,.clo cl caps),(4,.ptr 4 1 0 0),(5,.ptr 5 1 0 0),(8,.ptr 8 ((s.own 8).1+2+1) 0 0),(18,.sl (l.map eS)),(19,I l.length),(20,I (i:Nat)),(37,.sl (xM.map eR)),(38,I (xM.map eR).length),(39,I ((0:Nat):Int))]
   [(4,1,⟨128,6,[I 0::(zN++[.nil])],2⟩),(5,1,⟨128,6,[I w::(eR A0++[.als 400 (1+i) 0 (B.map eS).length])],2⟩),(400,1+i,⟨196,7,B.map eS,1⟩),(8,(s.own 8).1+2+1,⟨196,7,[I xx::(eR XC++[.sl (xS.map eN),.nil])],2⟩)]
   ak ?_
  generalize (s.own 8).1+2+1=g8;rw[hmm];intro s1;refine ax (Ghost.nilcell (k:=300) (k0:=8) (i:=0) (j:=6) (row:=I xx::(eR XC++[.sl (xS.map eN),.nil])) 41 4 1 O O O O O O O) ?_;have hg3:∃g3,(s1.own 300).1+1=g3:=⟨_,O⟩;obtain⟨g3,hg3⟩:=hg3;refine ao (fun k:Nat=>k<=xM.length) (fun k=>[(1,.clo cl caps),(4,.ptr 4 1 0 0),(5,.ptr 5 1 0 0),(8,.ptr 8 g8 0 0),(18,.sl (l.map eS)),(19,I l.length),(20,I (i:Nat)),(37,.sl (xM.map eR)),(38,I xM.length),(39,I (k:Nat))])
   (fun k=>[(4,1,⟨128,6,[I 0::(zN++[.nil])],2⟩),(5,1,⟨128,6,[I w::(eR A0++[.als 400 (1+i) 0 (B.map eS).length])],2⟩),(400,1+i,⟨196,7,B.map eS,1⟩),(8,g8,⟨196,7,[I xx::(eR XC++[.sl (xS.map eN),.als 300 (g3+k) 0 (((xM.take k).map rA).map eR).length])],2⟩),(300,g3+k,⟨41,4,((xM.take k).map rA).map eR,1⟩)]) (fun k=>xM.length-k) 0 (aF _)
   ⟨O,O,O,O,O,O,O,O,O,O,O,O,O,by rw[<-hg3];rfl,by rw[<-hg3];rfl,bP⟩ ?_
  clear hg3;intro k s2 hk;refine D ?_ ?_<;>intro h
  .have hlk:k<xM.length:=cP h;clear h;obtain⟨m,hm⟩:=aK hlk;have e4:=e3 m (bG hm);have hrk:=iC (f:=rA) hm;have hkl:((xM.take k).map rA).length<=1000:=by rw[aM,bI];omega
   have hwk:=im k;generalize rA m=n,(xM.take k).map rA=E at *
   refine aZ hm ?_;refine dN 9 ?_;refine cd [48,300] [8] 9 [5,6,9] aN aN ?_;refine G e4 ?_;refine H ?_;refine pK O O O (b8 1 O O O O O O O O O O O ak O ⟨nR O,?_⟩);refine H ?_;refine pK O O O (cQ 1 O O O O O O O O O O O ak (by intro row hr;first|(simp at hr;subst hr;rfl)|(simp at hr;obtain⟨_,_,rfl⟩:=hr;rfl)|simp at hr) O O aX aX ⟨nR O,?_⟩);refine H ?_;have hb3:g3+(k+1)=g3+k+1:=O;refine⟨k+1,hlk,J,O,O,O,O,O,O,O,O,O,congrArg I hwk,O,O,O,?_,?_,bP⟩
   .rw[hrk,hb3];refine Eq.trans (b:=(g8,some (Cont.mk 196 7 [I xx::(eR XC++[.sl (xS.map eN),.als 300 (g3+k+1) 0 (E.map eR++[eR n]).length])] 2))) O ?_;rw[show(E++[n]).map eR=E.map eR++[eR n] by rw[bQ];rfl]
   .rw[hrk,hb3,show(E++[n]).map eR=E.map eR++[eR n] by rw[bQ];rfl];rfl
  .have hke:k=xM.length:=cG h;clear h;subst hke;rw[bM];refine ax (Ghost.freezeD (k:=300) (k0:=8) (i:=0) (j:=6) (row:=I xx::(eR XC++[.sl (xS.map eN),.als 300 (g3+xM.length) 0 ((xM.map rA).map eR).length])) O O O O O O O O) ?_
   (refine dN 11 ?_;refine aD 1 ?_)
   refine g_ O ?_;refine bg ?_;refine aU O (hcx.run O O ⟨O,O,O,O,bP⟩ fun s3=>?_);refine aE ?_;refine H ?_;refine aC (b8 1 O O O O O O O O O O O ak O ?_);refine H ?_;refine aC (cQ 1 O O O O O O O O O O O ak jM O O aX aX ?_);refine H ?_;have hb4:1+(i+1)=1+i+1:=O;refine⟨i+1,hlt,J,O,O,O,O,O,congrArg I hw,O,?_,?_,bP⟩
   .rw[hrow,hb4];refine Eq.trans (b:=(1,some (Cont.mk 128 6 [I w::(eR A0++[.als 400 (1+i+1) 0 (B.map eS++[eS y]).length])] 2))) ?_ ?_
    .rw[hGx];rfl
    .rw[show(B++[y]).map eS=B.map eS++[eS y] by rw[bQ];rfl]
   .rw[hrow,hb4,show(B++[y]).map eS=B.map eS++[eS y] by rw[bQ];rfl,hGx];rfl
 .have hie:i=l.length:=cG h;clear h;subst hie;rw[bM];refine ax (Ghost.freezeD (k:=400) (k0:=5) (i:=0) (j:=5) (row:=I w::(eR A0++[.als 400 (1+l.length) 0 ((l.map G0).map eS).length])) O O O O O O O O) ?_;exact cy
structure StOk (t:ST):Prop where
 x : -1000000<=t.x/\t.x<=1000000
 w:1<=t.w/\t.w<=100000
 n:2<=t.L.length/\t.L.length<=30
 h:t.H0.length+1=t.L.length
 L:∀l∈t.L,0<=l/\l<=100000
 H0:∀h∈t.H0,0<=h/\h<=100000
 asc:∀i a b,t.L[i]?=some a->t.L[i+1]?=some b->a<b
theorem i7 {n lo hi:Int}(h:aR n lo hi=true):lo<=n/\n<=hi:=by
 simp[aR]at h;exact h
theorem Ie {t:ST}{u:Option ST}(h:mb t u=0):StOk t:=by
 have hp:=Aa h;have hf:lg t=0:=by
  unfold mb at h;rw[if_pos hp]at h;split at h
  .exact h
  .split at h
   .exact h
   .contradiction
 obtain⟨p1,p2⟩:=x_ hp;rw[lg]at hf;split at hf
 rotate_left
 .omega
 rename_i hn;obtain⟨n1,n2⟩:=lM hn.1;split at hf
 rotate_left
 .contradiction
 rename_i hl;have lv:∀i l,t.L[i]?=some l->aR l 0 100000=true/\¬(0<i/\l<=t.L.getD (i-1) 0):=fun i l hi=>by
  have:=mC hl hi;rw[ry]at this;split at this
  .rename_i g;split at this
   .omega
   .rename_i g2;exact⟨g,g2⟩
  .omega
 refine⟨p1,p2,⟨n1,n2⟩,J,fun l hm=>?_,fun x hm=>?_,fun i a b ha hb=>?_⟩
 .obtain⟨i,hi⟩:=j1.1 hm;exact i7 (lv i l hi).1
 .obtain⟨i,hi⟩:=j1.1 hm;have:=mC hf hi;rw[BZ]at this;split at this
  .rename_i g;exact i7 g
  .omega
 .have h2:=(lv (i+1) b hb).2;rw[gO,cH,ha]at h2;have h2:¬(0<i+1/\b<=a):=h2;omega
def Bx (d:Nat)(w h:Int):RR:=ofQ (((2*h*w:Int):Rat)*((d:Rat)/1000000000))
def wV (d:Nat)(t:ST):List RR:=t.H0.map (Bx d t.w)++[ofQ 0]
def iH (d:Nat)(t:ST):SR:=⟨t.x,ofQ 0,⟨t.L,wV d t⟩⟩
def ko (d:Nat)(l:List ST):List SR:=l.map (iH d)
theorem EE {d:Nat}{l:List ST}{k:Nat}{t:ST}(h:l[k]?=some t):(ko d (l.take (k+1))).map eS=(ko d (l.take k)).map eS++[eS (iH d t)]:=by rw[bY h,ko,ko,bQ,bQ];rfl
theorem Aj {h w:Int}(a:0<=h/\h<=100000)(b:1<=w/\w<=100000):0<=2*h*w/\2*h*w<=20000000000:=by
 have h1:2*h*w<=2*h*100000:=th b.2 J;have h2:0<=2*h*w:=tT J J;omega
theorem uE (s:SHP)(hs:s.Len)(d:Int)(he:jV s d≠0):bb 52 [.agg (jT s),I d] (.tup [.nil,I (jV s d)]):=by
 have h1:=floated_ret s hs d;generalize jV s d=e at *
 refine ay Proofs.Tryz.func52 ?_;refine aB h1 ?_;refine D ?_ ?_<;>intro h
 .clear h;exact cy
 .simp at h;exact absurd h he
theorem supports_ok (s:SHP)(hs:s.Len)(d:Nat)(he:jV s (d:Int)=0)(hd1:1<=d)(hd2:d<=1000000000)(hk:∀t∈s.st,StOk t)(h40:s.st.length<=40):bb 52 [.agg (jT s),I (d:Nat)] (.tup [.sl ((ko d s.st).map eS),I 0]):=by
 have h1:=floated_ret s hs (d:Int);rw[he]at h1;have w0:=ct 0 ⟨Y,Y⟩;rw[show(((0:Int):Rat))=0 from O]at w0;have hml:((s.st.map eT).length:Int)=s.st.length:=aj;obtain⟨nm,len,st,light,it⟩:=s;simp only at *
 clear he hs;refine ay Proofs.Tryz.func52 ?_;refine aB h1 ?_;refine dN 5 ?_;refine ax (Ghost.nilreg (k:=1007) (t:=7) 196 7 1 O O) ?_;refine H ?_;rw[hml];refine ao (fun i:Nat=>i<=st.length) (fun i=>[(1,I (d:Nat)),(2,.ptr 2 1 0 0),(7,.als 1007 (1+i) 0 ((ko d (st.take i)).map eS).length),(20,.sl (st.map eT)),(21,I st.length),(22,I (i:Nat))]) (fun i=>[(2,1,⟨27,9,[jT ⟨nm,len,st,light,it⟩],2⟩),(1007,1+i,⟨196,7,(ko d (st.take i)).map eS,1⟩)]) (fun i=>st.length-i) 0 (aF _) ak ?_;intro i s hi;refine D ?_ ?_<;>intro h
 .have hlt:i<st.length:=cP h;clear h;obtain⟨t,hx⟩:=aK hlt;have ok:=hk t (bG hx);have hsn:=EE (d:=d) hx;have hsl:(ko d (st.take i)).length<=40:=by rw[ko,aM,bI];omega
  have hw:=im i;have e2:=(pW t.L (by have:=ok.n;omega)).shared_of_fresh;have hmh:((t.H0.map eN).length:Int)=t.H0.length:=aj;have hn:=ok.n;have hh:=ok.h;generalize hS:ko d (st.take i)=S at *
  obtain⟨tx,tw,tL,tH⟩:=t;simp only at *
  refine aZ hx ?_;refine G e2 ?_;refine H ?_;rw[hmh];refine cA [(1,I (d:Nat)),(2,.ptr 2 1 0 0),(7,.als 1007 (1+i) 0 (S.map eS).length),(9,.ptr 9 ((s.own 9).1+1) 0 0),(10,.ptr 10 ((s.own 10).1+1) 0 0),(20,.sl (st.map eT)),(21,I st.length),(22,I (i:Nat)),(31,.sl (tH.map eN)),(32,I tH.length),(33,I ((0:Nat):Int))] [(2,1,⟨27,9,[jT ⟨nm,len,st,light,it⟩],2⟩),(1007,1+i,⟨196,7,S.map eS,1⟩),(9,(s.own 9).1+1,⟨115,4,[eT ⟨tx,tw,tL,tH⟩],2⟩),(10,(s.own 10).1+1,⟨194,2,[[.sl (tL.map eN),.nil]],2⟩)] ak ?_;generalize (s.own 9).1+1=g9;generalize (s.own 10).1+1=g10;intro s1;refine ax (Ghost.nilcell (k:=300) (k0:=10) (i:=0) (j:=1) (row:=[.sl (tL.map eN),.nil]) 41 4 1 O O O O O O O) ?_;have hg3:∃g3,(s1.own 300).1+1=g3:=⟨_,O⟩;obtain⟨g3,hg3⟩:=hg3;refine ao (fun k:Nat=>k<=tH.length) (fun k=>[(1,I (d:Nat)),(2,.ptr 2 1 0 0),(7,.als 1007 (1+i) 0 (S.map eS).length),(9,.ptr 9 g9 0 0),(10,.ptr 10 g10 0 0),(20,.sl (st.map eT)),(21,I st.length),(22,I (i:Nat)),(31,.sl (tH.map eN)),(32,I tH.length),(33,I (k:Nat))])
   (fun k=>[(2,1,⟨27,9,[jT ⟨nm,len,st,light,it⟩],2⟩),(1007,1+i,⟨196,7,S.map eS,1⟩),(9,g9,⟨115,4,[eT ⟨tx,tw,tL,tH⟩],2⟩),(10,g10,⟨194,2,[[.sl (tL.map eN),.als 300 (g3+k) 0 (((tH.take k).map (Bx d tw)).map eR).length]],2⟩),(300,g3+k,⟨41,4,((tH.take k).map (Bx d tw)).map eR,1⟩)]) (fun k=>tH.length-k) 0 (aF _)
   ⟨O,O,O,O,O,O,O,O,O,O,O,O,O,O,by rw[<-hg3];rfl,by rw[<-hg3];rfl,bP⟩ ?_
  clear hg3;intro k s2 hkl;refine D ?_ ?_<;>intro h
  .have hlk:k<tH.length:=cP h;clear h;obtain⟨x,hm⟩:=aK hlk;have hxl:=ok.H0 x (bG hm);have hvl:0<=2*x*tw/\2*x*tw<=20000000000:=Aj hxl ok.w;obtain⟨v1,v2⟩:=hvl;have zv:Zb (2*x*tw):=aL J J;have u1:=ct (2*x*tw) ⟨J,J⟩;have u2:=A_ (ofQ ((2*x*tw:Int):Rat)) (hx:=Vq.ofQ (h:=HQ.int)) Y d hd1 hd2;rw[show ofQ (((2*x*tw:Int):Rat)*((d:Rat)/1000000000))=Bx d tw x from O]at u2;have q1:=An (2*x);have q2:=An (2*x*tw);have hrk:=iC (f:=Bx d tw) hm;have hkl2:((tH.take k).map (Bx d tw)).length<=1000:=by rw[aM,bI];omega
   have hwk:=im k;generalize Bx d tw x=n,(tH.take k).map (Bx d tw)=E at *
   refine aZ hm ?_;refine dN 12 ?_;refine cd [47,300] [10] 13 [10,11,13] aN aN ?_;refine H ?_;rw[q1];refine H ?_;rw[q2];refine yd O O O u1 O O ?_;refine G u2 ?_;refine H ?_;refine pK O O O (b8 1 O O O O O O O O O O O ak O ⟨nR O,?_⟩);refine H ?_;refine pK O O O (cQ 1 O O O O O O O O O O O ak (by intro row hr;first|(simp at hr;subst hr;rfl)|(simp at hr;obtain⟨_,_,rfl⟩:=hr;rfl)|simp at hr) O O aX aX ⟨nR O,?_⟩);refine H ?_;have hb3:g3+(k+1)=g3+k+1:=O;refine⟨k+1,hlk,J,O,O,O,O,O,O,O,O,O,O,congrArg I hwk,O,O,O,?_,?_,bP⟩
   .rw[hrk,hb3,show(E++[n]).map eR=E.map eR++[eR n] by rw[bQ];rfl];rfl
   .rw[hrk,hb3,show(E++[n]).map eR=E.map eR++[eR n] by rw[bQ];rfl];rfl
  .have hke:k=tH.length:=cG h;clear h;subst hke;rw[bM];have hsr:wV d ⟨tx,tw,tL,tH⟩=tH.map (Bx d tw)++[ofQ 0]:=O;have hslen:(tH.map (Bx d tw)).length<=1000:=by rw[aM];omega
   generalize tH.map (Bx d tw)=E at *
   refine dN 14 ?_;refine cd [54,300] [10] 6 [3,4,6] aN aN ?_;refine G w0 ?_;refine H ?_;refine pK O O O (b8 1 O O O O O O O O O O O ak O ⟨nR O,?_⟩);refine H ?_;refine pK O O O (cQ 1 O O O O O O O O O O O ak (by intro row hr;first|(simp at hr;subst hr;rfl)|(simp at hr;obtain⟨_,_,rfl⟩:=hr;rfl)|simp at hr) O O aX aX ⟨nR O,?_⟩);refine dN 15 ?_;refine ax (Ghost.freezeD (k:=300) (k0:=10) (i:=0) (j:=1) (row:=[.sl (tL.map eN),.als 300 (g3+tH.length+1) 0 (E.map eR++[eR (ofQ 0)]).length]) O O O O O O O O) ?_;refine cY [63,1007] [6,7,8] aN ?_;refine G w0 ?_;refine H ?_;refine pK O O O (b8 1 O O O O O O O O O O O ak O ⟨nR O,?_⟩);refine H ?_;refine pK O O O (cQ 1 O O O O O O O O O O O ak (by intro row hr;first|(simp at hr;subst hr;rfl)|(simp at hr;obtain⟨_,_,rfl⟩:=hr;rfl)|simp at hr) O O aX aX ⟨nR O,?_⟩);refine H ?_;have hrow:(ko d (st.take (i+1))).map eS=S.map eS++[[I tx]++eR (ofQ 0)++[.sl (tL.map eN),.sl (E.map eR++[eR (ofQ 0)])]]:=by
    rw[hsn,iH,hsr,show(eS ⟨tx,ofQ 0,⟨tL,E++[ofQ 0]⟩⟩)=[I tx]++eR (ofQ 0)++[.sl (tL.map eN),.sl ((E++[ofQ 0]).map eR)] from O,bQ];rfl
   refine⟨i+1,hlt,J,O,O,?_,O,O,congrArg I hw,O,?_,bP⟩
   .rw[hrow];rfl
   .rw[hrow];rfl
 .have hie:i=st.length:=cG h;clear h;subst hie;rw[bM]
  (repeat ((fail_if_success (with_reducible refine fY ?_));refine Ab O ?_))
  refine ax (Ghost.takeD (k:=1007) (t:=4) O O O) ?_;exact cy
theorem Ef (d:Nat)(t:ST):(wV d t).length=t.H0.length+1:=by simp[wV]
def zB:List PV:=I 0::(zN++[.nil])
def uX:BR:=⟨0,RR.zero,[]⟩
theorem WeakL.app {a b c d:List PV}(h1:WeakL a b)(h2:WeakL c d):WeakL (a++c) (b++d):=by
 induction h1 with
 |nil=>exact h2
 |cons h _ ih=>exact .cons h ih
theorem GN:WeakL zB (eB uX) := .cons (.rfl _) (jG.app (.cons .nil .nil))
theorem u6 (b:BR)(hb:b.Lim):bb 115 [.agg (eB b)] (.tup [.agg (eB (if df b=0 then b else uX)),I (df b)]):=by
 have h1:=eP b hb;by_cases h0:df b=0
 .rw[if_pos h0,h0];rw[h0]at h1;refine ay Proofs.Tryz.func115 ?_;refine aB h1 ?_;exact cy
 .rw[if_neg h0]
  suffices hz:bb 115 [.agg (eB b)] (.tup [.agg zB,I (df b)]) from hz.weak (WeakL.refl _) (WeakL.tup (.cons GN.agg (WeakL.refl _)))
  generalize df b=e at *
  refine ay Proofs.Tryz.func115 ?_;refine aB h1 ?_;refine D ?_ ?_<;>intro h
  .clear h;exact cy
  .simp at h;exact absurd h h0
def qX (s:SHP):Rat:=(sX (s.light::s.it):Rat)/(sM (s.light::s.it):Rat)
def wB (s:SHP)(l:List SR):BR:=⟨sM (s.light::s.it),ofQ (qX s),l⟩
def pB (s:SHP)(l:List SR):BR:=⟨sM (s.light::s.it),ofQ (qX s),l.map Cq⟩
theorem HV (p:Rat):rA (ofQ p)=ofQ p:=by rw[rA,ofQ_val]
theorem IG (s:SHP)(l:List SR):Ji id (wB s l)=pB s l:=by
 rw[Ji,pB];show(⟨sM (s.light::s.it),rA (ofQ (qX s)),l.map fun x=>id (Cq x)⟩:BR)=_;rw[HV];rfl
theorem v8 {s:SHP}(h:ShipOk s):1<=sM (s.light::s.it)/\sM (s.light::s.it)<=61000000000/\hq (qX s) 4:=by
 obtain⟨⟨a1,a2⟩,-,⟨a3,a4⟩,-⟩:=nt h.ld;have hn:((s.light::s.it).length:Int)<=61:=by have:=h.n;simp;omega
 have h1:=h.m;refine⟨h1,J,i6 J ?_ ?_⟩
 .rw[show 65536^4=18446744073709551616 by decide];omega
 .rw[show 65536^4=18446744073709551616 by decide];omega
theorem ER (s:SHP)(hs:s.Len)(he:iS s=0)(l:List SR)(hb:(wB s l).Lim)(hp:(pB s l).Lim)(h12:l.length<=1000)(hM:∀x∈l,x.k.M.length<=1000):bb 53 [.agg (jT s),.sl (l.map eS)] (.tup [.agg (eB (if df (pB s l)=0 then pB s l else uX)),I (df (pB s l))]):=by
 have h1:=A6 s hs he;have h2:=xB (wB s l) hb h12 hM 117 [] id (fun x _=>FB (Cq x));rw[IG]at h2;have h3:=u6 (pB s l) hp;have ew:eB (wB s l)=I (sM (s.light::s.it))::(eR (ofQ (qX s))++[.sl (l.map eS)]):=O;rw[ew]at h2;rw[EM,show(sX (s.light::s.it):Rat)/(sM (s.light::s.it):Rat)=qX s from O]at h1;generalize ofQ ((sZ (s.light::s.it):Rat)/(sM (s.light::s.it):Rat))=QZ,df (pB s l)=e at *
 generalize hX:(if e=0 then pB s l else uX)=X at *
 generalize pB s l=c,ofQ (qX s)=QX,sM (s.light::s.it)=m,sF (s.light::s.it)=f at *
 clear hb hp;refine ay Proofs.Tryz.func53 ?_;refine G h1 ?_;refine G h2 ?_;refine G h3 ?_;exact cy
structure BKR where
 x:Int
 z:Int
 hf:Int
 ht:Int
 wd:Int
 st:RR
 lim:Int
 side:Bool
structure ZNR where
 nm:EW
 a:Int
 b:Int
 h:Int
structure DKR where
 s:SHP
 d:Int
 bl:List BKR
 zn:List ZNR
 gm:Int
 oh:Int
structure DKR.Len (d:DKR):Prop where
 s:d.s.Len
 bl:d.bl.length<=9223372036854775807
 zn:d.zn.length<=9223372036854775807
def JT (l:List ZNR)(i:Nat)(z:ZNR):Int:=if fM z.nm=true then(if (l.take i).any (fun y=>decide (y.nm=z.nm))=true then 5 else if (aR z.a (-1000000) 1000000&&aR z.b (-1000000) 1000000&&decide (z.a<=z.b)&&aR z.h 0 100000)=true then 0 else 2) else 4
def EU (l:List ZNR):Int:=if 20<l.length then 8 else iL l (JT l)
def vD (L:List Int)(z:Int):List Int->Nat->Option Int
 |[],_=>none
 |h::H0,k=>if z<h then some (L.getD k 0) else vD L z H0 (k+1)
def Jf (x:Int)(t:ST):Bool:=decide (2*t.x-t.w<=2*x)&&decide (2*x<2*t.x+t.w)
def u5 (x z:Int):List ST->Option Int
 |[]=>none
 |t::l=>if Jf x t=true then(match vD t.L z t.H0 0 with
  |some n=>some n
  |none=>u5 x z l) else u5 x z l
def IY (b:BKR):Bool:=aR b.x (-1000000) 1000000&&aR b.hf 1 10000&&aR b.ht 0 100000&&aR b.wd 1 20000&&aR b.lim 0 1000000000&&decide (0<b.st.val)
def H8 (b:BKR):Bool:=IY b&&(if b.side then aR b.z 1 100000&&decide (b.wd<=2*b.z) else decide (b.z=0))
def Jg (b:BKR)(z:ZNR):Bool:=decide (b.x-b.hf<z.b)&&decide (z.a<b.x+b.hf)&&decide (2*b.z-b.wd<2*z.h)
def IM (a b:Int):Int:=if a-b<b-a then b-a else a-b
def HD (b c:BKR):Bool:=decide (IM b.x c.x<b.hf+c.hf)&&decide (2*IM b.z c.z<b.wd+c.wd)
def HA (st:List ST)(zn:List ZNR)(l:List BKR)(i:Nat)(b:BKR):Int :=
 if H8 b=true then(if (u5 b.x b.z st).isSome=true then(if zn.any (Jg b)=true then 15 else if (l.take i).any (HD b)=true then 17 else 0) else 6) else 2
def Ch (st:List ST)(zn:List ZNR)(l:List BKR):Int:=if 40<l.length then 8 else iL l (HA st zn l)
def Jx (d:DKR):Int :=
 if jV d.s d.d=0 then(if EU d.zn=0 then(if Ch d.s.st d.zn d.bl=0 then(if (aR d.gm (-100000) 100000&&aR d.oh 0 1000000)=true then 0 else 2) else Ch d.s.st d.zn d.bl) else EU d.zn) else jV d.s d.d
def other (c:UInt8):Bool:=(decide (48<=(c.toNat:Int))&&decide ((c.toNat:Int)<=57))||decide ((c.toNat:Int)=45)
structure BkIn (b:BKR):Prop where
 x : -1000000<=b.x/\b.x<=1000000
 hf:1<=b.hf/\b.hf<=10000
 ht:0<=b.ht/\b.ht<=100000
 wd:1<=b.wd/\b.wd<=20000
 z:0<=b.z/\b.z<=100000
 lim:0<=b.lim/\b.lim<=1000000000
 st:0<b.st.val
theorem H9 {b:BKR}(h:H8 b=true):BkIn b:=by
 rw[H8,IY]at h;simp only[bj,decide_eq_true_eq]at h;obtain⟨⟨⟨⟨⟨⟨h1,h2⟩,h3⟩,h4⟩,h5⟩,h6⟩,h7⟩:=h;refine⟨i7 h1,i7 h2,i7 h3,i7 h4,?_,i7 h5,h6⟩;split at h7
 .simp only[bj]at h7;have:=i7 h7.1;omega
 .have:=bK h7;omega
structure ZnIn (z:ZNR):Prop where
 a : -1000000<=z.a/\z.a<=1000000
 b : -1000000<=z.b/\z.b<=1000000
 h:0<=z.h/\z.h<=100000
theorem HB {st:List ST}{zn:List ZNR}{l:List BKR}{j:Nat}{c:BKR}(h:HA st zn l j c=0):BkIn c:=by
 rw[HA]at h;split at h
 .rename_i h1;exact H9 h1
 .omega
structure DKR.Ok (d:DKR):Prop where
 len:d.Len
 st:∀b∈d.bl,b.st.sz 12
theorem Id {s:SHP}(h:iS s=0):(∀t∈s.st,StOk t)/\s.st.length<=40:=by
 have ok:=pD h;refine⟨fun t ht=>?_,ok.len⟩;obtain⟨i,hi⟩:=j1.1 ht;exact Ie (ok.st i t hi)
end Go.Pv
namespace Go.Pv
open Go.Proofs
def Cn (st:List ST)(b:BKR):Int:=(u5 b.x b.z st).getD 0
def Et (b:BKR):Rat:=if b.side=true then b.st.val*2 else b.st.val
def Ax (st:List ST)(b:BKR):SR:=⟨b.x,ofQ ((b.ht-Cn st b:Int):Rat),⟨[0],[ofQ (Et b)]⟩⟩
def xy (st:List ST)(l:List BKR):List SR:=l.map (Ax st)
def Ha (q:Rat)(s:SR):SR:=⟨s.x,ofQ q,s.k⟩
def kY (d:DKR):Nat:=d.d.toNat
def gj (d:DKR)(q:Rat):List SR:=xy d.s.st d.bl++(ko (kY d) d.s.st).map (Ha q)
theorem vE {L:List Int}{z n:Int}:∀ {H0:List Int} {k:Nat},vD L z H0 k=some n->∃j,k<=j/\j<k+H0.length/\n=L.getD j 0
 |[],k,h=>by simp[vD]at h
 |a::H0,k,h=>by
  rw[vD]at h;split at h
  .exact⟨k,aH,aj,by simpa using h.symm⟩
  .obtain⟨j,h1,h2,h3⟩:=vE h;exact⟨j,J,by simp;omega,h3⟩
theorem sS {x z n:Int}:∀ {l:List ST},(∀t∈l,StOk t)->u5 x z l=some n->0<=n/\n<=100000
 |[],_,h=>by simp[u5]at h
 |t::l,hs,h=>by
  rw[u5]at h;have hl:=fun u hu=>hs u (ir _ hu);split at h
  .split at h
   .rename_i m hm;have ok:=hs t fO;obtain⟨j,h1,h2,h3⟩:=vE hm;have hj:j<t.L.length:=by have:=ok.h;omega
    rw[cH,aQ hj]at h3;have:=ok.L _ (tI hj);simp only[aJ]at h;simp at h3;omega
   .exact sS hl h
  .exact sS hl h
theorem yI {st:List ST}(hs:∀t∈st,StOk t)(b:BKR):0<=Cn st b/\Cn st b<=100000:=by
 rw[Cn];cases h:u5 b.x b.z st with
 |none=>exact⟨mS _,Y⟩
 |some n=>exact sS hs h
end Go.Pv
set_option maxHeartbeats 2000000
namespace Go.Pv
attribute [local irreducible] PWP POps PQuiet PSem XThen XBlock RetPost InlPost
open Go.Proofs
structure DKR.Bl (d:DKR):Prop where
 st:∀t∈d.s.st,StOk t
 n:d.s.st.length<=40
 b:∀b∈d.bl,BkIn b/\b.st.sz 12
 m:d.bl.length<=40
theorem yU {d:DKR}(h:900<=d.d/\d.d<=1100):((kY d:Nat):Int)=d.d:=Int.toNat_of_nonneg J
theorem CZ (a:AR)(x:Int)(hx:i64 x){z t:Rat}{n m:Nat}[ha:Va a z t n m](hn:n<=1000000)(hm:m<=1000000):bb 76 [.agg (eA a),I x] (.agg (eR (ofQ (z+t*(x:Rat))))):=by
 have hxz:Zb x:=aL hx.1 hx.2;have hw:=ct x hx;have h1:=gu a.t (ofQ (x:Rat)) (hx:=ha.t) J Y;have v1:Vq (ofQ (t*(x:Rat))) (t*(x:Rat)) (m+1+4):=Vq.ofQ (h:=@HQ.mul _ _ (m+1) 4 ha.t.hq HQ.int);have h2:=dh a.z (ofQ (t*(x:Rat))) (hx:=ha.z) (hy:=v1) J J;obtain⟨az,at'⟩:=a;simp only at *
 generalize ofQ (z+t*(x:Rat))=X2,ofQ (t*(x:Rat))=X1,ofQ (x:Rat)=X0 at *
 refine ay Proofs.Tryz.func76 ?_;refine dg 8 [5,6,7,8,9,10,11,12] ?_;refine G hw ?_;refine G h1 ?_;refine G h2 ?_;exact cy
structure STQ where
 km:RR
 kg:RR
 gm:RR
 ot:RR
def Kf:STQ:=⟨RR.zero,RR.zero,RR.zero,RR.zero⟩
structure DQ where
 lv:RR
 a:AR
 F:List RR
 up:RR
 bu:RR
 s:STQ
 held:Bool
 ph:Int
def dZ:DQ:=⟨RR.zero,zA,[],RR.zero,RR.zero,Kf,false,0⟩
def iG (l:List Rat):Rat:=l.foldl (·+·) 0
theorem BI (l:List Rat)(x:Rat):iG (l++[x])=iG l+x:=by rw[iG,mM];rfl
theorem EC {N:Nat}{l:List Rat}(h:∀q∈l,hq q N):hq (iG l) ((N+1)*l.length+4):=by
 have key:∀(l:List Rat) (a:Rat) (m:Nat),hq a m->(∀q∈l,hq q N)->hq (l.foldl (·+·) a) (m+(N+1)*l.length):=by
  intro l
  induction l with
  |nil=>intro a m ha _;simpa using ha
  |cons x l ih =>
   intro a m ha hl;rw[iz,eJ];have:=ih (a+x) (m+N+1) (@HQ.add a x m N ⟨ha⟩ ⟨hl x fO⟩).ok fun q hq=>hl q (ir _ hq);rwa [show m+N+1+(N+1)*l.length=m+(N+1)*(l.length+1) by rw[bB];omega]at this
 have:=key l 0 4 HQ.zero.ok h;rwa [ic]at this
def Jp (x:Int):SR:=⟨x,ofQ 0,⟨[0,3000],[ofQ ((80:Int):Rat),ofQ 0]⟩⟩
def JV (x:Int):SR:=⟨x,ofQ ((1500:Int):Rat),⟨[0],[ofQ ((1000:Int):Rat)]⟩⟩
def r1:BR:=⟨320000,ofQ ((10000:Int):Rat),[Jp 5000,Jp 15000]⟩
def r2:BR:=⟨320000,ofQ ((10000:Int):Rat),[JV 5000,JV 15000,Jp 5000,Jp 15000]⟩
def wf (y:Rat):Rat:=if y<0 then 0 else if y<3000 then 80*y else 240000
theorem As {e:Int}:Weak (.tup [.agg zS,.agg (zN++zN),I e]) (⟨zA,[],zA,e⟩:SQ).pv:=WeakL.tup (.cons nA.agg (.cons nz.agg (WeakL.refl _)))
theorem float_err (s:SHP)(hs:s.Len)(d:Int)(he:jV s d≠0):bb 14 [.agg (jT s),I d] (⟨zA,[],zA,jV s d⟩:SQ).pv:=by
 have h1:=uE s hs d he;refine Ret.weak ?_ (WeakL.refl _) As;generalize jV s d=e at *
 refine ay Proofs.Tryz.func14 ?_;refine G h1 ?_;refine D ?_ ?_<;>intro h
 .clear h;exact cy
 .simp at h;exact absurd h he
theorem float_ok (s:SHP)(d:Int)(B:BR)(l:List SR)(e:Int)(Q:SQ)(h1:bb 52 [.agg (jT s),I d] (.tup [.sl (l.map eS),I 0]))(h2:bb 53 [.agg (jT s),.sl (l.map eS)] (.tup [.agg (eB B),I e]))
  (h3:e=0->bb 54 [.agg (eB B)] Q.pv) (h4:e≠0->Q=⟨zA,[],zA,e⟩):bb 14 [.agg (jT s),I d] Q.pv:=by
 by_cases he:e=0
 .have g3:=h3 he;clear h3 h4;subst he;obtain⟨⟨az,at'⟩,F,⟨rz,rt⟩,e⟩:=Q;simp only[SQ.pv]at *
  refine ay Proofs.Tryz.func14 ?_;refine G h1 ?_;refine G h2 ?_;refine G g3 ?_;exact cy
 .rw[h4 he];refine Ret.weak ?_ (WeakL.refl _) As;clear h3 h4;refine ay Proofs.Tryz.func14 ?_;refine G h1 ?_;refine G h2 ?_;refine D ?_ ?_<;>intro h
  .clear h;exact cy
  .simp at h;exact absurd h he
end Go.Pv
set_option maxHeartbeats 2000000
namespace Go.Pv
attribute [local irreducible] PWP POps PQuiet PSem XThen XBlock RetPost InlPost
open Go.Proofs Go.RowKit
theorem yO {p:Prop}[Decidable p]{b:Bool}(h:b=true↔p):b=decide p:=by
 cases b with
 |true=>exact(decide_eq_true (h.1 rfl)).symm
 |false=>exact(decide_eq_false fun g=>by have:=h.2 g;cases this).symm
def Ei (t:ST):Bool:=!decide ((8<t.L.length/\t.L.length<=30)\/40<t.L.length\/40<t.H0.length)
def Eh (w:LR):Bool:=decide (w.nm.length<=40)
def I9 (s:SHP):Bool:=!decide (40<s.nm.length\/40<s.light.nm.length\/(6<s.st.length/\s.st.length<=40)\/45<s.st.length\/(8<s.it.length/\s.it.length<=60)\/205<s.it.length)
def JI (s:SHP):Bool:=I9 s&&s.st.all Ei&&s.it.all Eh
theorem uT {α:Type}{p:α->Bool}{l:List α}{k:Nat}{x:α}(hx:l[k]?=some x)(h:p x=false):l.all p=false:=List.all_eq_false.2 ⟨x,bG hx,by rw[h];decide⟩
theorem yF {α:Type}{p:α->Bool}{l:List α}(h:∀(j:Nat) x,j<l.length->l[j]?=some x->p x=true):l.all p=true:=bx.2 fun x hx=>by
 obtain⟨j,hj⟩:=j1.1 hx;exact h j x (bD hj).1 hj
theorem uS {α:Type}{p:α->Bool}{l:List α}{k:Nat}{x:α}(h:∀(j:Nat) x,j<k->l[j]?=some x->p x=true)(hx:l[k]?=some x)(hp:p x=true):∀(j:Nat) x,j<k+1->l[j]?=some x->p x=true:=fun j u hj hu=>by
 rcases aT j k with g|g
 .exact h j u g hu
 .rw[show j=k by omega,hx]at hu;cases hu;exact hp
theorem smS_ret (s:SHP):bb 10 [.agg (jT s)] (.bool (JI s)):=by
 have hml:((s.st.map eT).length:Int)=s.st.length:=aj;have hmi:((s.it.map eLd).length:Int)=s.it.length:=aj;generalize hf:JI s=E;rw[JI]at hf;obtain⟨nm,len,st,light,it⟩:=s;simp only at *
 refine ay Proofs.Tryz.func10 ?_;refine H ?_;refine yb 100 [(1,.ptr 1 1 0 0),(52,.bool (!I9 ⟨nm,len,st,light,it⟩))] [(1,1,⟨27,9,[jT ⟨nm,len,st,light,it⟩],2⟩)] ?_ ?_
 .clear hf
  repeat' (first|refine g_ O ?_|refine j8 O O (fun h=>?_) (fun h=>?_)|refine j7 O O (fun h=>?_) (fun h=>?_)|refine j5 O O (fun h=>?_) (fun h=>?_))
  all_goals refine⟨O,congrArg PV.bool ?_,O,bP⟩
  all_goals (rw[I9,Bool.not_not];refine yO ?_)
  all_goals (simp only[decide_eq_true_eq,decide_eq_false_iff_not,hml,hmi]at *)
  all_goals (first|omega|(simp only[true_iff];omega)|(simp only[cF,false_iff];omega))
 intro s0;refine H ?_;cases h0:I9 ⟨nm,len,st,light,it⟩
 .rw[h0]at hf;simp only[kG]at hf;subst hf;exact rq
 have h1:st.length<=45/\it.length<=205:=by
  simp only[I9,i8,decide_eq_false_iff_not]at h0;omega
 rw[h0,jd]at hf;refine H ?_;refine ao (fun k:Nat=>k<=st.length/\∀(j:Nat) t,j<k->st[j]?=some t->Ei t=true) (fun k=>[(1,.ptr 1 1 0 0),(3,I (k:Nat))]) (fun _=>[(1,1,⟨27,9,[jT ⟨nm,len,st,light,it⟩],2⟩)]) (fun k=>st.length-k) 0 ⟨aF _,fun j t hj=>absurd hj J⟩ ak ?_;rintro k s1 ⟨hk,hall⟩;refine H ?_;rw[hml];refine cO O ?_ ?_<;>intro h
 .have hlt:k<st.length:=cP h;clear h;obtain⟨t,hx⟩:=aK hlt;have hmL:((t.L.map eN).length:Int)=t.L.length:=aj;have hmH:((t.H0.map eN).length:Int)=t.H0.length:=aj;have hw:=im k;have bad:Ei t=false->E=false:=fun h=>by rw[<-hf,uT hx h,kG]
  have good:=uS hall hx;have hdef:Ei t=!decide ((8<t.L.length/\t.L.length<=30)\/40<t.L.length\/40<t.H0.length):=O;generalize Ei t=b at *
  refine aZ hx ?_;refine dN 7 ?_;refine cA [(1,.ptr 1 1 0 0),(3,I (k:Nat)),(4,.ptr 4 ((s1.own 4).1+1) 0 0)] [(1,1,⟨27,9,[jT ⟨nm,len,st,light,it⟩],2⟩),(4,(s1.own 4).1+1,⟨115,4,[eT t],2⟩)] ak ?_;generalize (s1.own 4).1+1=g4;intro s2
  ((repeat (first|refine bg ?_ | refine d_ ?_ | refine dK ?_ | refine dT ?_));refine bV ?_)
  refine yb 100 [(1,.ptr 1 1 0 0),(3,I (k:Nat)),(86,.bool (!b))] [(1,1,⟨27,9,[jT ⟨nm,len,st,light,it⟩],2⟩)] ?_ ?_
  .clear hf bad good hall
   repeat' (first|refine g_ O ?_|refine j8 O O (fun h=>?_) (fun h=>?_)|refine j7 O O (fun h=>?_) (fun h=>?_)|refine j5 O O (fun h=>?_) (fun h=>?_))
   all_goals refine⟨O,O,congrArg PV.bool ?_,O,bP⟩
   all_goals (rw[hdef,Bool.not_not];refine yO ?_)
   all_goals (simp only[decide_eq_true_eq,decide_eq_false_iff_not,hmL,hmH]at *)
   all_goals (first|omega|(simp only[true_iff];omega)|(simp only[cF,false_iff];omega))
  intro s3;refine H ?_;cases b
  .rw[bad O];exact rq
  .refine H ?_;exact⟨k+1,⟨hlt,good O⟩,J,O,congrArg I hw,O,bP⟩
 have hge:k=st.length:=cG h;clear h;subst hge;rw[yF hall,jd]at hf;clear hall;refine H ?_;refine ao (fun k:Nat=>k<=it.length/\∀(j:Nat) t,j<k->it[j]?=some t->Eh t=true) (fun k=>[(1,.ptr 1 1 0 0),(5,I (k:Nat))]) (fun _=>[(1,1,⟨27,9,[jT ⟨nm,len,st,light,it⟩],2⟩)]) (fun k=>it.length-k) 0 ⟨aF _,fun j t hj=>absurd hj J⟩ ak ?_;rintro k s1 ⟨hk,hall⟩;refine H ?_;rw[hmi];refine cO O ?_ ?_<;>intro h
 .have hlt:k<it.length:=cP h;clear h;obtain⟨t,hx⟩:=aK hlt;have hw:=im k;have bad:Eh t=false->E=false:=fun h=>by rw[<-hf,uT hx h]
  have good:=uS hall hx;have hdef:Eh t=decide (t.nm.length<=40):=O;generalize Eh t=b at *
  refine aZ hx ?_;refine D ?_ ?_<;>intro h
  .have h2:40<(t.nm.length:Int):=bK h;clear h;rw[decide_eq_false J]at hdef;rw[bad hdef];exact rq
  .have h2:¬40<(t.nm.length:Int):=cJ h;clear h;rw[decide_eq_true J]at hdef;refine H ?_;exact⟨k+1,⟨hlt,good hdef⟩,J,O,congrArg I hw,O,bP⟩
 have hge:k=it.length:=cG h;clear h;subst hge;rw[yF hall]at hf;subst hf;exact rq
end Go.Pv
namespace Go.Pv
open Go.RowKit
variable [Globs]
section
variable {P:Program}{L:b9}{s:St}
theorem Loc.idx {o:Oper}{T e:TypeId}{r re:LRow}{x ix:Operand}{d k g i m n:Nat}{kk:IntKind}{c:Cont}(ho:o.op=.indexAddr T x ix)(hd:o.dst=some d)(hr:L T=some r)(hs:r.sh=.sl e)(hre:L e=some re)
  (hx:s.ev x=.als k g i m) (hown:s.own k=(g,some c)) (hsz:c.sz=re.size) (hix:s.ev ix=.int kk (n:Int)) (hlt:n<m):Loc P L s o k (s.putR d (.ptr k g (i+n) 0)):=by
 have key:∀u:St,u.own k=s.own k->(∀z∈o.op.operands,u.ev z=s.ev z)->E4 P L u o k (u.putR d (.ptr k g (i+n) 0)):=fun u hu he=>by
  refine⟨fun k' hk=>rfl,fun t ht=>?_,fun C a w K Q hG h hN hK=>?_⟩
  .show(bif Nat.beq t d then _ else u.reg t)=_;rw[bR (fun e=>ht (by rw[e];exact hd))];rfl
  .have hx':u.ev x=.als k g i m:=by rw[he x (by rw[ho];simp[Op.operands,Call.operands])];exact hx
   have hy':u.ev ix=.int kk (n:Int):=by rw[he ix (by rw[ho];simp[Op.operands])];exact hix
   have:=QOp.idxA (P:=P) (L:=L) (s:=u) (o:=o) ho hr hs hre hx' (by rw[hu];exact hown) hsz hy' J J;rw[aS]at this;refine this.wp hG h hN fun a' w' h'=>hK a' w' ?_;rw[hd]at h';exact h'
 refine .any (key s O fun _ _=>rfl) fun u hu he=>⟨_,key u hu he,hu,fun t ht=>?_⟩;rw[hd]at ht;cases ht;show(bif Nat.beq d d then _ else _)=(bif Nat.beq d d then _ else _);simp
theorem Loc.look {o:Oper}{d k:Nat}{v:PV}(hd:o.dst=some d)(h:∀u:St,u.own k=s.own k->(∀z∈o.op.operands,u.ev z=s.ev z)->QOp P L u o v):Loc P L s o k (s.putR d v):=by
 have key:∀u:St,u.own k=s.own k->(∀z∈o.op.operands,u.ev z=s.ev z)->E4 P L u o k (u.putR d v):=fun u hu he=>by
  refine⟨fun k' hk=>rfl,fun t ht=>?_,fun C a w K Q hG hs hN hK=>?_⟩
  .show(bif Nat.beq t d then _ else u.reg t)=_;rw[bR (fun e=>ht (by rw[e];exact hd))];rfl
  .refine(h u hu he).wp hG hs hN fun a' w' h'=>hK a' w' ?_;rw[hd]at h';exact h'
 refine .any (key s O fun _ _=>rfl) fun u hu he=>⟨_,key u hu he,hu,fun t ht=>?_⟩;rw[hd]at ht;cases ht;show(bif Nat.beq d d then _ else _)=(bif Nat.beq d d then _ else _);simp
end
section
variable {P:Program}{L:b9}{ops:Array Oper}{s:St}{K:St->Prop}{rest:List Oper}
end
end Go.Pv
set_option maxHeartbeats 2000000
namespace Go.Pv
attribute [local irreducible] PWP POps PQuiet PSem XThen XBlock RetPost InlPost
open Go.Proofs
theorem J4 {n:Nat}{cs:List PV}(h:pG lay.get (n+3) 115 cs):∃t:ST,cs=eT t/\t.L.length<=9223372036854775807/\t.H0.length<=9223372036854775807:=by
 obtain⟨parts,rfl,hl,hp⟩:=yE h O
 match parts,hl,hp with
 |[p0,p1,p2,p3],_,hp =>
  obtain⟨x,rfl,-⟩:=oQ (hp 0 _ p0 O O);obtain⟨w,rfl,-⟩:=oQ (hp 1 _ p1 O O);obtain⟨L,rfl,h1,-⟩:=vf (hp 2 _ p2 O O);obtain⟨H0,rfl,h2,-⟩:=vf (hp 3 _ p3 O O);exact⟨⟨x,w,L,H0⟩,O,h1,h2⟩
theorem JW {n:Nat}{cs:List PV}(h:pG lay.get (n+2) 24 cs):∃w:LR,cs=eLd w:=by
 obtain⟨parts,rfl,hl,hp⟩:=yE h O
 match parts,hl,hp with
 |[p0,p1,p2,p3,p4],_,hp =>
  obtain⟨a0,rfl⟩:=Af (hp 0 _ p0 O O) O;obtain⟨a1,rfl⟩:=pH (hp 1 _ p1 O O) O;obtain⟨a2,rfl⟩:=pH (hp 2 _ p2 O O) O;obtain⟨a3,rfl⟩:=pH (hp 3 _ p3 O O) O;obtain⟨a4,rfl⟩:=pH (hp 4 _ p4 O O) O;exact⟨⟨a0,a1,a2,a3,a4⟩,O⟩
theorem Jy {n:Nat}{cs:List PV}(h:pG lay.get (n+5) 27 cs):∃s:SHP,cs=jT s/\s.Len:=by
 obtain⟨parts,rfl,hl,hp⟩:=yE h O
 match parts,hl,hp with
 |[p0,p1,p2,p3,p4],_,hp =>
  obtain⟨nm,rfl⟩:=Af (hp 0 _ p0 O O) O;obtain⟨len,rfl,-⟩:=oQ (hp 1 _ p1 O O);obtain⟨r1,rfl,hl1,hr1⟩:=uI (hp 2 _ p2 O O) O;obtain⟨w,rfl⟩:=JW (hp 3 _ p3 O O);obtain⟨r2,rfl,hl2,hr2⟩:=uI (hp 4 _ p4 O O) O;obtain⟨st,rfl,hz⟩:=kR (f:=eT) (p:=fun t=>t.L.length<=9223372036854775807/\t.H0.length<=9223372036854775807) fun row hrow=>J4 (hr1 row hrow);obtain⟨it,rfl,-⟩:=kR (f:=eLd) (p:=fun _=>True) fun row hrow=>by
   obtain⟨a,rfl⟩:=JW (hr2 row hrow);exact⟨a,O,bP⟩
  rw[aM]at hl1 hl2;exact⟨⟨nm,len,st,w,it⟩,by simp[jT,eN],De hl1,De hl2,hz⟩
theorem dkSh0 {c:PV}(h:xt lay.get 27 c):∃s:SHP,c=.agg (jT s)/\s.Len:=by
 obtain⟨cs,rfl,h⟩:∃cs,c=.agg cs/\pG lay.get 12 27 cs:=h;obtain⟨s,rfl,hs⟩:=Jy (n:=7) h;exact⟨s,O,hs⟩
structure SmD (d:DKR):Prop where
 st:d.s.st.length<=45
 it:d.s.it.length<=205
 bl:d.bl.length<=65
 zn:d.zn.length<=25
 L:∀t∈d.s.st,t.L.length<=40/\t.H0.length<=40
 b:∀b∈d.bl,b.st.sz 3
theorem Jb {x:RR}{n m:Nat}(h:x.sz n)(hm:n<=m):x.sz m:=⟨bz h.1 hm,bz h.2 hm⟩
theorem SmD.ok {d:DKR}(h:SmD d)(hl:d.Len):d.Ok:=⟨hl,fun b hb=>Jb (h.b b hb) Y⟩
theorem Fs {d:Nat}(hd:d<=1100){w h:Int}(hh:0<=h/\h<=100000)(hw:1<=w/\w<=100000):hq (((2*h*w:Int):Rat)*((d:Rat)/1000000000)) 4:=by
 obtain⟨v1,v2⟩:=Aj hh hw;generalize 2*h*w=v at *
 have e:(v:Rat)*((d:Rat)/1000000000)=((v*(d:Int):Int):Rat)/((1000000000:Int):Rat):=by
  rw[ja,show((d:Int):Rat)=(d:Rat) from O,show((1000000000:Int):Rat)=1000000000 from O];grind
 rw[e];have h1:v*(d:Int)<=20000000000*(d:Int):=y9 v2 J;have h2:0<=v*(d:Int):=tT v1 J;refine i6 Y ?_ Y;rw[show 65536^4=18446744073709551616 by decide];omega
theorem Cy {d:Nat}(hd:d<=1100){t:ST}(ok:StOk t):∀x∈wV d t,∃q,x=ofQ q/\hq q 4:=fun x hx=>by
 rcases fe.1 hx with hx|hx
 .obtain⟨h,hh,rfl⟩:=bF.1 hx;exact⟨_,O,Fs hd (ok.H0 h hh) ok.w⟩
 .rw[lQ.1 hx];exact⟨0,O,(HQ.zero.mono (show 4<=4 by decide)).ok⟩
structure LeS (s:SR):Prop where
 c:s.c.le 1000000000
 S:s.k.S.length<=1000000
 M:s.k.M.length<=1000000
 m:∀m∈s.k.M,m.le 1000000000
theorem IL {d:DKR}(hd:d.Ok)(h:Jx d=0):d.Bl/\(900<=d.d/\d.d<=1100)/\jV d.s d.d=0:=by
 rw[Jx]at h;split at h
 .rename_i h1;split at h
  .split at h
   .rename_i h2 h3;have hE:iS d.s=0:=by rw[jV]at h1;split at h1<;>omega
    obtain⟨a,b⟩:=Id hE;rw[Ch]at h3;split at h3
    .omega
    .refine⟨⟨a,b,fun x hx=>?_,J⟩,?_,h1⟩
     .obtain⟨j,hj⟩:=j1.1 hx;exact⟨HB (nJ h3 j x hj),hd.st x hx⟩
     .rw[jV,if_pos hE]at h1;split at h1
      .rename_i h4;exact i7 h4
      .omega
   .contradiction
  .contradiction
 .contradiction
namespace Bd
structure Sd (b:Bd):Prop where
 N:b.N<=11
 n:∀i,i<b.N->b.n i<=8
 X:∀i,i<b.N->hq (b.X i) 2
 C:∀i,i<b.N->hq (b.C i) 4
 S:∀i,i<b.N->∀k,k<b.n i->hq (b.S i k) 2
 M:∀i,i<b.N->∀k,k<b.n i->hq (b.M i k) 4
 w:hq b.w 4
 A:hq b.A 4
variable {b:Bd}
theorem Sd.k (h:b.Sd){p:Nat->Nat}(hp:∀i,i<b.N->p i<=b.n i){i:Nat}(hi:i<b.N):HQ (b.k p i) 4:=by
 rw[Bd.k];have h1:=hp i hi;cases hpi:p i with
 |zero=>rw[bU];exact HQ.zero
 |succ m=>exact⟨h.M i hi m J⟩
theorem Sd.bef (h:b.Sd){i:Nat}(hi:i<b.N){k:Nat}(hk:k<b.n i):HQ (bU (b.M i) k) 4:=by
 cases k with
 |zero=>rw[bU];exact HQ.zero
 |succ m=>exact⟨h.M i hi m J⟩
theorem Sd.o (h:b.Sd){p:Nat->Nat}(hp:∀i,i<b.N->p i<=b.n i){i:Nat}(hi:i<b.N):HQ (b.o p i) 100:=by
 rw[Bd.o,k8];have h1:=hp i hi;have h2:=h.n i hi;refine(bw (m:=11) (p i) fun k hk=>?_).mono J;have:=h.bef hi (k:=k) J;have:HQ (b.M i k) 4:=⟨h.M i hi k J⟩;have:HQ (b.S i k) 2:=⟨h.S i hi k J⟩;show HQ ((b.M i k-bU (b.M i) k)*b.S i k) 11;exact inferInstanceAs (HQ ((b.M i k-bU (b.M i) k)*b.S i k) (4+4+1+2))
theorem Sd.Kh (h:b.Sd){p:Nat->Nat}(hp:∀i,i<b.N->p i<=b.n i):HQ (b.Kh p) 59:=by
 have:=h.N;exact(bw (m:=4) b.N fun i hi=>h.k hp hi).mono J
theorem Sd.Kc (h:b.Sd){p:Nat->Nat}(hp:∀i,i<b.N->p i<=b.n i):HQ (b.Kc p) 81:=by
 have:=h.N;refine(bw (m:=6) b.N fun i hi=>?_).mono J;have:=h.k hp hi;have:HQ (b.X i) 2:=⟨h.X i hi⟩;exact inferInstanceAs (HQ (b.k p i*b.X i) (4+2))
theorem Sd.Kp (h:b.Sd){p:Nat->Nat}(hp:∀i,i<b.N->p i<=b.n i):HQ (b.Kp p) 103:=by
 have:=h.N;refine(bw (m:=8) b.N fun i hi=>?_).mono J;have:=h.k hp hi;have:HQ (b.X i) 2:=⟨h.X i hi⟩;exact inferInstanceAs (HQ (b.k p i*b.X i*b.X i) (4+2+2))
theorem Sd.Fo (h:b.Sd){p:Nat->Nat}(hp:∀i,i<b.N->p i<=b.n i):HQ (b.Fo p) 1214:=by
 have:=h.N;refine(bw (m:=109) b.N fun i hi=>?_).mono J;have:=h.k hp hi;have:=h.o hp hi;have:HQ (b.C i) 4:=⟨h.C i hi⟩;exact inferInstanceAs (HQ (b.k p i*b.C i-b.o p i) (4+4+100+1))
theorem Sd.Go (h:b.Sd){p:Nat->Nat}(hp:∀i,i<b.N->p i<=b.n i):HQ (b.Go p) 1236:=by
 have:=h.N;refine(bw (m:=111) b.N fun i hi=>?_).mono J;have:=h.k hp hi;have:=h.o hp hi;have:HQ (b.C i) 4:=⟨h.C i hi⟩;have:HQ (b.X i) 2:=⟨h.X i hi⟩;exact inferInstanceAs (HQ ((b.k p i*b.C i-b.o p i)*b.X i) (4+4+100+1+2))
theorem Sd.T (h:b.Sd):b.SzT:=fun t ht=>by
 obtain⟨p,hp,hK,ht⟩:=ht;have h1:=h.Kh hp;have h2:=h.Kc hp;have h3:=h.Kp hp;have h4:=h.Fo hp;have h5:=h.Go hp;have hw:HQ b.w 4:=⟨h.w⟩;have hA:HQ b.A 4:=⟨h.A⟩;rcases ht with⟨i,hi,k,hk,g1,g2⟩|⟨g1,g2⟩
 .have hX:HQ (b.X i) 2:=⟨h.X i hi⟩;have hC:HQ (b.C i) 4:=⟨h.C i hi⟩;have hS:HQ (b.S i k) 2:=⟨h.S i hi k hk⟩;have:t=(b.S i k-b.C i-(b.w-b.Fo p)/b.Kh p)/(b.X i-b.Kc p/b.Kh p):=by
   rw[Bd.y,Bd.ln]at g1;rw[Bd.gr]at g2;grind
  rw[this];have e:HQ ((b.S i k-b.C i-(b.w-b.Fo p)/b.Kh p)/(b.X i-b.Kc p/b.Kh p)) _:=inferInstance;exact ep e.ok Y
 .have:t=(b.w*b.A-b.Go p-b.Kc p*((b.w-b.Fo p)/b.Kh p))/((b.Kh p*b.Kp p-b.Kc p*b.Kc p)/b.Kh p):=by
   rw[Bd.eln,Bd.ln]at g1;rw[Bd.det]at g2;grind
  rw[this];have e:HQ ((b.w*b.A-b.Go p-b.Kc p*((b.w-b.Fo p)/b.Kh p))/((b.Kh p*b.Kp p-b.Kc p*b.Kc p)/b.Kh p)) _:=inferInstance;exact ep e.ok Y
end Bd
theorem qc {s:SHP}{d:Int}(h:jV s d=0):iS s=0:=by
 rw[jV]at h;split at h
 .assumption
 .contradiction
def dB (d:DKR)(p:Rat):BR:=wB d.s (gj d p)
theorem Jl (p:Rat):rA (ofQ p)=ofQ p:=by rw[rA,ofQ_val]
theorem iI {d:DKR}{p:Rat}{x:SR}(h:x∈gj d p):(∃b∈d.bl,x=Ax d.s.st b)\/∃t∈d.s.st,x=Ha p (iH (kY d) t):=by
 rw[gj]at h;rcases fe.1 h with h|h
 .obtain⟨b,hb,e⟩:=bF.1 (show x∈d.bl.map (Ax d.s.st) from h);exact .inl ⟨b,hb,e.symm⟩
 .obtain⟨w,hw,rfl⟩:=bF.1 h;obtain⟨t,ht,rfl⟩:=bF.1 (show w∈d.s.st.map (iH (kY d)) from hw);exact .inr ⟨t,ht,O⟩
theorem mj (d:DKR)(p:Rat):(gj d p).length=d.bl.length+d.s.st.length:=by rw[gj,bT,xy,aM,aM,ko,aM]
theorem HE (d:DKR)(p:Rat):(gj d p).map Cq=gj d p:=by
 refine(cE fun x hx=>?_).trans (List.map_id _);rcases iI hx with⟨b,-,rfl⟩|⟨t,-,rfl⟩
 .simp[Cq,Ax,Jl]
 .have hm:(wV (kY d) t).map rA=wV (kY d) t:=by
   refine(cE fun x hx=>?_).trans (List.map_id _);rcases fe.1 hx with hx|hx
   .obtain⟨h,-,rfl⟩:=bF.1 hx;exact Jl _
   .rw[lQ.1 hx];exact Jl 0
  simp[Cq,Ha,iH,Jl,hm]
theorem DA (d:DKR)(p:Rat):pB d.s (gj d p)=dB d p:=by rw[pB,HE];rfl
structure Slim (d:DKR) (p:Rat):Prop where
 ok:d.Ok
 e:Jx d=0
 st:d.s.st.length<=6
 bl:d.bl.length<=5
 L:∀t∈d.s.st,t.L.length<=8
 S:∀b∈d.bl,b.st.sz 3
 p:hq p 4
theorem Im {x:RR}{n:Nat}(h:x.sz n)(hn:1<=n):∃a b:Int,x.val=(a:Rat)/(b:Rat)/\b≠0/\a.natAbs<65536^n/\b.natAbs<65536^n :=
 ⟨x.n.val,x.d.den,O,x.d.den_ne,x.n.val_lt h.1,x.d.den_lt h.2 hn⟩
theorem CK {α β:Type}(f:α->List β)(n:Nat):∀(l:List α),(∀x∈l,(f x).length<=n)->(l.flatMap f).length<=l.length*n
 |[],_=>by simp
 |x::l,h=>by
  have h1:=h x aj;have h2:=CK f n l fun y hy=>h y (by simp[hy]);rw[js,bT,eJ,be];omega
theorem Eu {b:BKR}(h:b.st.sz 3):hq (Et b) 4:=by
 obtain⟨x,y,e,h0,h1,h2⟩:=Im h Y;have k3:(65536:Nat)^3=281474976710656:=Y;have k4:(65536:Nat)^4=18446744073709551616:=Y;rw[k3]at h1 h2;rw[Et];split
 .rw[e,show(x:Rat)/(y:Rat)*2=((x*2:Int):Rat)/(y:Rat) by rw[Rat.intCast_mul,show((2:Int):Rat)=2 from O];grind];exact i6 h0 J J
 .rw[e];exact i6 h0 J J
theorem Slim.bd {d:DKR}{p:Rat}(h:Slim d p):d.Bl/\(900<=d.d/\d.d<=1100)/\jV d.s d.d=0:=IL h.ok h.e
theorem qj {q:Rat}{n m:Nat}(h:hq q n)(hm:n<=m):(ofQ q).sz m:=⟨bz (nK h).1 hm,bz (nK h).2 hm⟩
theorem AT {z:Int}(h : -1000000<=z/\z<=1000000):hq (z:Rat) 2:=i5 (by rw[show(65536:Nat)^2=4294967296 by decide];omega) Y
theorem sW {d:DKR}{p:Rat}(h:Slim d p):(dB d p).Lim:=by
 obtain⟨hk,hd,hf⟩:=h.bd;have ok:=pD (qc hf);obtain⟨m1,m2,mq⟩:=v8 ok;refine⟨⟨by show -9223372036854775808<=sM (d.s.light::d.s.it);omega,by show sM (d.s.light::d.s.it)<=9223372036854775807;omega⟩,qj mq Y,fun x hx=>?_,by have:=mj d p;have:=h.st;have:=h.bl;show(gj d p).length<=_;omega⟩;rcases iI hx with⟨b,hb,rfl⟩|⟨t,ht,rfl⟩
 .obtain⟨hin,-⟩:=hk.b b hb;have hx:=hin.x;have hz:=hin.ht;have hbi:=yI hk.st b;refine⟨⟨by show -9223372036854775808<=b.x;omega,by show b.x<=9223372036854775807;omega⟩,qj (AT (z:=b.ht-Cn d.s.st b) J) Y,fun z hz=>?_,fun m hm=>?_,by show 1<=_;decide,by show 1<=_;decide⟩
  .rw[lQ.1 hz];exact⟨Y,Y⟩
  .rw[lQ.1 hm];exact qj (Eu (h.S b hb)) Y
 .have o:=hk.st t ht;refine⟨⟨by show -9223372036854775808<=t.x;have:=o.x;omega,by show t.x<=9223372036854775807;have:=o.x;omega⟩,qj h.p Y,fun z hz=>?_,fun y hy=>?_,?_,?_⟩
  .have:=o.L z hz;exact⟨J,J⟩
  .obtain⟨q,rfl,hq⟩:=Cy (d:=kY d) (by have:=yU hd;omega) o y hy;exact qj hq Y
  .show t.L.length<=1000000000;have:=o.n;omega
  .show(wV (kY d) t).length<=1000000000;rw[Ef];have:=o.n;have:=o.h;omega
theorem xC {d:DKR}{p:Rat}(h:Slim d p):∀x∈gj d p,x.k.S.length<=8:=fun x hx=>by
 rcases iI hx with⟨b,-,rfl⟩|⟨t,ht,rfl⟩
 .show 1<=8;decide
 .exact h.L t ht
theorem GU {d:DKR}{p:Rat}(h:Slim d p)(t:Rat):(nD (gj d p) t).length<=53:=by
 rw[nD,gj,o6,bT];have h1:=CK (rj t) 1 (xy d.s.st d.bl) fun x hx=>by
  rw[oP];obtain⟨b,-,rfl⟩:=bF.1 (show x∈d.bl.map (Ax d.s.st) from hx);exact ji 1
 have h2:=CK (rj t) 8 ((ko (kY d) d.s.st).map (Ha p)) fun x hx=>by
  rw[oP];exact xC h x (by rw[gj];exact gN _ hx)
 rw[xy,aM]at h1;rw[aM,ko,aM]at h2;have:=h.st;have:=h.bl;simp only[xy,ko]at *
 omega
theorem IJ {d:DKR}{p:Rat}(h:Slim d p):(bd (dB d p)).Sd:=by
 obtain⟨hk,hd,hf⟩:=h.bd;have ok:=pD (qc hf);obtain⟨m1,m2,mq⟩:=v8 ok;have hg:∀i,i<(bd (dB d p)).N->(∃b∈d.bl,(dB d p).l.getD i dS=Ax d.s.st b)\/∃t∈d.s.st,(dB d p).l.getD i dS=Ha p (iH (kY d) t):=fun i hi=>iI (bq hi);refine⟨?_,fun i hi=>xC h _ (bq hi),fun i hi=>?_,fun i hi=>?_,fun i hi k hk'=>?_,fun i hi k hk'=>?_,?_,?_⟩
 .show(gj d p).length<=11;rw[mj];have:=h.st;have:=h.bl;omega
 .show hq (((dB d p).l.getD i dS).x:Rat) 2;rcases hg i hi with⟨b,hb,e⟩|⟨t,ht,e⟩
  .rw[e];exact AT (hk.b b hb).1.x
  .rw[e];exact AT (hk.st t ht).x
 .show hq ((dB d p).l.getD i dS).c.val 4;rcases hg i hi with⟨b,hb,e⟩|⟨t,ht,e⟩
  .rw[e];show hq (ofQ _).val 4;rw[ofQ_val];have hz:=(hk.b b hb).1.ht;have hbi:=yI hk.st b;exact ep (AT J) Y
  .rw[e];show hq (ofQ p).val 4;rw[ofQ_val];exact h.p
 .show hq (((dB d p).l.getD i dS).k.s k) 2;rcases hg i hi with⟨b,hb,e⟩|⟨t,ht,e⟩
  .rw[e];show hq ((([0]:List Int).getD k 0:Int):Rat) 2;refine AT ?_
   match k with
   |0=>decide
   |k+1=>simp
  .rw[e];show hq ((t.L.getD k 0:Int):Rat) 2;refine AT ?_;have:0<=t.L.getD k 0/\t.L.getD k 0<=100000:=by
    rw[cH];cases hl:t.L[k]? with
    |none=>simp
    |some l=>exact(hk.st t ht).L l (bG hl)
   omega
 .show hq (((dB d p).l.getD i dS).k.m k) 4;have z0:hq RR.zero.val 4:=by
   have:RR.zero.val=0:=by decide +kernel
   rw[this];exact(HQ.zero.mono (show 4<=4 by decide)).ok
  rcases hg i hi with⟨b,hb,e⟩|⟨t,ht,e⟩
  .rw[e];show hq (([ofQ (Et b)]:List RR).getD k RR.zero).val 4
   match k with
   |0=>show hq (ofQ (Et b)).val 4;rw[ofQ_val];exact Eu (h.S b hb)
   |k+1=>exact z0
  .rw[e];show hq ((wV (kY d) t).getD k RR.zero).val 4;rw[cH];cases hl:(wV (kY d) t)[k]? with
   |none=>exact z0
   |some x =>
    obtain⟨q,rfl,g⟩:=Cy (d:=kY d) (by have:=yU hd;omega) (hk.st t ht) x (bG hl);show hq (ofQ q).val 4;rw[ofQ_val];exact g
 .exact JB _ ⟨by show -9223372036854775808<=sM (d.s.light::d.s.it);omega,by show sM (d.s.light::d.s.it)<=9223372036854775807;omega⟩
 .show hq (ofQ (qX d.s)).val 4;rw[ofQ_val];exact mq
theorem dB_good {d:DKR}{p:Rat}(h:Slim d p):(dB d p).Good/\∀t,SortC (nD (dB d p).l t) :=
 ⟨⟨sW h,fun hc=>⟨⟨sW h,hc,by show(gj d p).length<=12;rw[mj];have:=h.st;have:=h.bl;omega,xC h⟩,(IJ h).T,fun t=>bz (GU h t) Y⟩⟩,fun t=>Gn _ (bz (GU h t) Y)⟩
end Go.Pv
namespace Go.Pv
open Go.Proofs
def eE (t:ST)(k:Nat):Rat:=((t.L.getD k 0:Int):Rat)
def fL (t:ST)(y:Rat)(k:Nat):Rat:=if y<=eE t k then 0 else if y<eE t (k+1) then y-eE t k else eE t (k+1)-eE t k
def rx (t:ST)(k:Nat):Rat:=((2*t.H0.getD k 0:Int):Rat)
def ri (t:ST)(y:Rat):Nat->Rat
 |0=>0
 |k+1=>ri t y k+rx t k*fL t y k
def FH (t:ST)(y:Rat)(k:Nat):Rat:=rx t k*fL t y k*(eE t k+(eE t k+fL t y k))/2
def t_ (t:ST)(y:Rat):Nat->Rat
 |0=>0
 |k+1=>t_ t y k+FH t y k
def uK (t:ST)(y:Rat):Rat:=ri t y t.H0.length
def FG (t:ST)(y:Rat):Rat:=t_ t y t.H0.length
theorem tU {t:ST}(ok:StOk t){k:Nat}(h:k+1<t.L.length):eE t k<eE t (k+1):=by
 have h0:t.L[k]?=some (t.L.getD k 0):=br (d:=0) J;have h1:t.L[k+1]?=some (t.L.getD (k+1) 0):=br (d:=0) h;have:=ok.asc k _ _ h0 h1;rw[eE,eE];exact tp.2 this
theorem IW {t:ST}(ok:StOk t){j k:Nat}(hjk:k<=j):j<t.L.length->eE t k<=eE t j:=by
 induction j with
 |zero=>intro _;rw[show k=0 by omega];exact du
 |succ j ih =>
  intro h;rcases aT j k with g|g
  .rw[show k=j+1 by omega];exact du
  .have:=ih g J;have:=tU ok h;grind
theorem AF {t:ST}(ok:StOk t){y:Rat}{k:Nat}(hk:k<t.H0.length)(h:y<=eE t k):∀j,k<=j->j<=t.H0.length->ri t y j=ri t y k/\t_ t y j=t_ t y k:=by
 intro j hkj
 induction j with
 |zero=>intro _;rw[show k=0 by omega];exact⟨rfl,rfl⟩
 |succ j ih =>
  intro hj;rcases aT j k with g|g
  .rw[show k=j+1 by omega];exact⟨O,O⟩
  .obtain⟨i1,i2⟩:=ih g J;have hL:=ok.h;have hle:=IW ok g J;have h0:fL t y j=0:=by rw[fL,if_pos aW]
   rw[ri,t_,FH,h0,i1,i2];constructor<;>grind
def GY (t:ST)(y:Rat):Nat->Nat->Int
 |0,_=>0
 |n+1,k=>if eE t k<=y/\y<eE t (k+1) then t.H0.getD k 0 else GY t y n (k+1)
def li (t:ST)(y:Rat):Int:=GY t y t.H0.length 0
def ap (f:ST->Rat):List ST->Rat:=fun l=>l.foldl (fun a t=>a+f t) 0
theorem f0 (f:ST->Rat){l:List ST}{k:Nat}{t:ST}(h:l[k]?=some t):ap f (l.take (k+1))=ap f (l.take k)+f t:=by
 rw[ap,ap,bY h,mM];rfl
def cg (z s:Rat)(t:ST):Rat:=z+s*(t.x:Rat)
def wQ (t:ST):Rat:=(t.w:Rat)
def xQ (t:ST):Rat:=(t.x:Rat)
structure HYQ where
 vol:Rat
 disp:Rat
 x:Rat
 z:Rat
 area:Rat
 flo:Rat
 cross:Rat
 long:Rat
 mtc:Rat
def ci (z s:Rat)(t:ST):Rat:=2*(li t (cg z s t):Rat)*wQ t
def vG (st:List ST)(d:Nat)(z s:Rat):HYQ :=
 let v:=ap (fun t=>wQ t*uK t (cg z s t)) st;let sx:=ap (fun t=>wQ t*uK t (cg z s t)*xQ t) st;let sz:=ap (fun t=>wQ t*FG t (cg z s t)) st;let a:=ap (ci z s) st;let f:=ap (fun t=>ci z s t*xQ t) st;let c:=ap (fun t=>2*(li t (cg z s t):Rat)*(li t (cg z s t):Rat)*(li t (cg z s t):Rat)*wQ t/3) st;let l:=ap (fun t=>ci z s t*xQ t*xQ t) st;let fl:=if a=0 then 0 else f/a
 ⟨v,v*((d:Rat)/1000000000),sx/v,sz/v,a,fl,c,if a=0 then 0 else l-a*fl*fl,sz/v+c/v⟩
end Go.Pv
set_option maxHeartbeats 2000000
namespace Go.Pv
attribute [local irreducible] PWP POps PQuiet PSem XThen XBlock RetPost InlPost
open Go.Proofs
structure Stood (d:DKR) (p z t:Rat):Prop where
 e:df (dB d p)=0
 bal:(bd (dB d p)).Bal z t
 hz:HQ z 24000
 ht:HQ t 20000
 s:n6 (dB d p)=⟨⟨ofQ z,ofQ t⟩,FL (gj d p) z t,zA,0⟩
theorem stood {d:DKR}{p:Rat}(h:Slim d p)(he:(n6 (dB d p)).e=0):∃z t,Stood d p z t:=by
 rw[n6]at he;split at he
 .rename_i h0;split at he
  .contradiction
  .rename_i h1;split at he
   .exact absurd (show(13:Int)=0 from he) Y
   .rename_i h2;split at he
    .exact absurd (show(14:Int)=0 from he) Y
    .rename_i h3;obtain⟨hb,hs,-⟩:=(dB_good h).1.2 h0;have hn:oo (dB d p):=⟨by simpa using h1,fun r hr=>by
      have:=List.find?_eq_none.1 h2 r hr
      simpa using this⟩
     obtain⟨-,hbal,hz,ht⟩:=p8 hb hs hn;refine⟨_,_,h0,hbal,hz,ht,?_⟩;rw[n6,if_pos h0,if_neg h1,h2];simp only;rw[if_neg h3];rfl
 .rename_i h0;exact absurd he h0
def vQ (d:DKR)(p z t:Rat):List Rat:=(gj d p).map fun s=>fQ s z t
theorem Il (d:DKR)(p z t:Rat):(vQ d p z t).length=d.bl.length+d.s.st.length:=by rw[vQ,aM,mj]
theorem EA {l:List SR}{g:SR->Rat}:∀n,n<=l.length->iG ((l.map g).take n)=am (fun i=>g (l.getD i dS)) n:=by
 intro n
 induction n with
 |zero=>intro _;rfl
 |succ n ih =>
  intro hn;have hx:(l.map g)[n]?=some (g (l.getD n dS)):=by rw[aV,br (d:=dS) J];rfl
  rw[bY hx,BI,ih J,am]
theorem Ez (a b:List Rat):iG (a++b)=iG a+iG b:=by
 have key:∀(l:List Rat) (x:Rat),l.foldl (·+·) x=x+l.foldl (·+·) 0:=by
  intro l
  induction l with
  |nil=>intro x;simp only[List.foldl_nil];grind
  |cons y l ih=>intro x;rw[List.foldl_cons,List.foldl_cons,ih (x+y),ih (0+y)];grind
 rw[iG,iG,iG,mM,key]
theorem yy (v:List Rat)(n:Nat):iG (v.take n)+iG (v.drop n)=iG v:=by rw[<-Ez,cD]
theorem E5 {d:DKR}{p z t:Rat}(h:(bd (dB d p)).Bal z t):iG (vQ d p z t)=(dB d p).w:=by
 have h1:=EA (l:=gj d p) (g:=fun s=>fQ s z t) (gj d p).length (aH);rw[dp (by rw[aM];exact aH)]at h1;exact h1.trans h.1
theorem Stood.okB {d:DKR}{p z t:Rat}(h:Slim d p)(hs:Stood d p z t):(dB d p).Ok:=((dB_good h).1.2 hs.e).1
theorem Hn {d:DKR}{p z t:Rat}(h:Slim d p)(hs:Stood d p z t):∀q∈vQ d p z t,hq q 50000:=by
 have hb:=hs.okB h;intro q hq;obtain⟨i,hi⟩:=j1.1 hq;have hil:i<(dB d p).l.length:=by
  have:=(bD hi).1;rw[vQ,aM]at this;exact this
 have hq:q=(bd (dB d p)).f z t i:=by
  rw[vQ,aV,br (l:=gj d p) (d:=dS) hil]at hi;exact(bk hi).symm
 have hp:=C5 hb z t;rw[hq,Bd.f_at (k9 hb) hp hil,Bd.y];have e:(bd (dB d p)).k ((bd (dB d p)).pR z t) i*((bd (dB d p)).C i+(z+t*(bd (dB d p)).X i))-(bd (dB d p)).o ((bd (dB d p)).pR z t) i=(bd (dB d p)).k ((bd (dB d p)).pR z t) i*(z+t*(bd (dB d p)).X i)+((bd (dB d p)).k ((bd (dB d p)).pR z t) i*(bd (dB d p)).C i-(bd (dB d p)).o ((bd (dB d p)).pR z t) i):=aW;rw[e];have k1:=AU hb ((bd (dB d p)).pR z t) hil;have k2:=ES hb hil;have k3:=C_ hb (p:=(bd (dB d p)).pR z t) (fun i hi=>(hp i hi).1) hil;have hz:=hs.hz;have ht:=hs.ht;exact((@HQ.add _ _ _ _ (@HQ.mul _ _ _ _ k1 (@HQ.add _ _ _ _ hz (@HQ.mul _ _ _ _ ht k2))) k3).mono Y).ok
theorem Ho {d:Nat}{t:ST}(ok:StOk t):(∀k,k<t.H0.length->(iH d t).k.m k=wQ t*((d:Rat)/1000000000)*rx t k)/\(iH d t).k.m t.H0.length=0:=by
 have hl:(t.H0.map (Bx d t.w)).length=t.H0.length:=aM _;refine⟨fun k hk=>?_,?_⟩
 .show((wV d t).getD k RR.zero).val=_;have hx:(wV d t)[k]?=some (Bx d t.w (t.H0.getD k 0)):=by rw[wV,fG J,aV,br (d:=0) hk];rfl
  rw[cH,hx];show(ofQ _).val=_;rw[ofQ_val,rx,wQ,ja,ja];grind
 .show((wV d t).getD t.H0.length RR.zero).val=_;have hx:(wV d t)[t.H0.length]?=some (ofQ 0):=by rw[wV,dj J,hl,fU];rfl
  rw[cH,hx];show(ofQ 0).val=0;rw[ofQ_val]
theorem BT {d:Nat}{t:ST}(ok:StOk t)(y:Rat):∀j,j<=t.H0.length->am (iE (iH d t).k.s (iH d t).k.m t.L.length y) j=wQ t*((d:Rat)/1000000000)*ri t y j:=by
 intro j
 induction j with
 |zero=>intro _;rw[am,ri];grind
 |succ j ih =>
  intro hj;have hL:=ok.h;rw[am,ih J,ri,iE,(Ho (d:=d) ok).1 j J,xb,if_pos J];have hs:∀k,(iH d t).k.s k=eE t k:=fun k=>rfl;rw[hs,hs];have hlt:=tU ok (k:=j) J;have e:fX (tZ y (eE t (j+1))-eE t j)=fL t y j:=by
   simp only[fX,tZ,fL];grind
  rw[e];grind
theorem GH {d:Nat}{t:ST}(ok:StOk t)(y:Rat):jF t.L.length (iH d t).k.s (iH d t).k.m y=wQ t*((d:Rat)/1000000000)*uK t y:=by
 have ha:∀i,i+1<t.L.length->(iH d t).k.s i<(iH d t).k.s (i+1):=fun i hi=>tU ok hi;rw[jF,jA ha,show t.L.length=t.H0.length+1 from ok.h.symm,am,iE,(Ho (d:=d) ok).2,uK,<-BT (d:=d) ok y _ (aH),show t.H0.length+1=t.L.length from ok.h];grind
theorem wat_force {d:Nat}{t:ST}(ok:StOk t)(p z u:Rat):fQ (Ha p (iH d t)) z u=wQ t*uK t (cg (z+p) u t)*((d:Rat)/1000000000):=by
 have e:yQ (Ha p (iH d t)) z u=cg (z+p) u t:=by
  show(ofQ p).val+(z+u*(t.x:Rat))=_;rw[ofQ_val,cg];grind
 show jF t.L.length (iH d t).k.s (iH d t).k.m (yQ (Ha p (iH d t)) z u)=_;rw[e,GH ok];grind
theorem EB (f:ST->Rat)(c:Rat)(l:List ST):ap (fun t=>f t*c) l=ap f l*c:=by
 have key:∀(l:List ST) (a b:Rat),a=b*c->l.foldl (fun a t=>a+f t*c) a=l.foldl (fun a t=>a+f t) b*c:=by
  intro l
  induction l with
  |nil=>intro a b h;exact h
  |cons t l ih=>intro a b h;rw[List.foldl_cons,List.foldl_cons];exact ih _ _ (by rw[h];grind)
 exact key l 0 0 aW
theorem bu_sum {d:DKR}(hst:∀t∈d.s.st,StOk t)(p z u:Rat):iG ((vQ d p z u).drop d.bl.length)=ap (fun t=>wQ t*uK t (cg (z+p) u t)) d.s.st*((kY d:Rat)/1000000000):=by
 have h1:(vQ d p z u).drop d.bl.length=d.s.st.map fun t=>wQ t*uK t (cg (z+p) u t)*((kY d:Rat)/1000000000):=by
  rw[vQ,gj,bQ,List.drop_append_of_le_length (by rw[aM,xy,aM];exact aH),jZ (by rw[aM,xy,aM];exact aH),kE,ko,jg,jg];exact cE fun t ht=>wat_force (hst t ht) p z u
 rw[h1,iG,List.foldl_map,<-EB];rfl
def gd (l:List Rat):Rat:=l.foldl (·*·) 1
theorem ya (l:List Rat)(x:Rat):gd (l++[x])=gd l*x:=by rw[gd,mM];rfl
theorem FX {N:Nat}{l:List Rat}(h:∀q∈l,hq q N):hq (gd l) (N*l.length+4):=by
 have key:∀(l:List Rat) (a:Rat) (m:Nat),hq a m->(∀q∈l,hq q N)->hq (l.foldl (·*·) a) (m+N*l.length):=by
  intro l
  induction l with
  |nil=>intro a m ha _;simpa using ha
  |cons x l ih =>
   intro a m ha hl;rw[iz,eJ];have:=ih (a*x) (m+N) (@HQ.mul a x m N ⟨ha⟩ ⟨hl x fO⟩).ok fun q hq=>hl q (ir _ hq);rwa [show m+N+N*l.length=m+N*(l.length+1) by rw[bB];omega]at this
 have:=key l 1 4 HQ.one.ok h;rwa [ic]at this
theorem mf (v:List Rat)(N:Nat)(hv:∀q∈v,hq q N)(h5:v.length<=5)(hN:N<=3000000):bb 105 [.sl ((v.map ofQ).map eR)] (.agg (eR (ofQ (gd v)))):=by
 have w1:=ct 1 ⟨Y,Y⟩;rw[show((1:Int):Rat)=1 from O]at w1;have hml:((v.map ofQ).map eR).length=v.length:=aj;have hs:∀i,hq (gd (v.take i)) 15000004:=fun i=>by
  have:=FX (N:=N) (l:=v.take i) fun q hq=>hv q (gp hq);refine(HQ.mono (q:=gd (v.take i)) (h:=⟨this⟩) ?_).ok;have h1:(v.take i).length<=5:=by rw[bI];omega
  have:=dr hN h1;omega
 refine ay Proofs.Tryz.func105 ?_;refine G w1 ?_;refine H ?_;rw[hml];refine cA [(2,.ptr 2 1 0 0),(3,.ptr 3 1 0 0),(7,.sl ((v.map ofQ).map eR)),(8,I v.length),(9,I ((0:Nat):Int))] [(2,1,⟨41,4,[zN],2⟩),(3,1,⟨41,4,[eR (ofQ 1)],2⟩)] ak ?_;intro s0;refine ao (fun k:Nat=>k<=v.length) (fun k=>[(2,.ptr 2 1 0 0),(3,.ptr 3 1 0 0),(7,.sl ((v.map ofQ).map eR)),(8,I v.length),(9,I (k:Nat))]) (fun k=>[(2,1,⟨41,4,[zN],2⟩),(3,1,⟨41,4,[eR (ofQ (gd (v.take k)))],2⟩)]) (fun k=>v.length-k) 0 (aF _) ak ?_;intro k s hk;refine D ?_ ?_<;>intro h
 .have hlt:k<v.length:=cP h;clear h;obtain⟨q,hq⟩:=aK hlt;have hx:(v.map ofQ)[k]?=some (ofQ q):=by rw[aV,hq];rfl
  have e1:=gu (ofQ (gd (v.take k))) (ofQ q) (hx:=Vq.ofQ (h:=⟨hs k⟩)) (hy:=Vq.ofQ (h:=⟨hv q (bG hq)⟩)) Y J;have hsn:gd (v.take (k+1))=gd (v.take k)*q:=by rw[bY hq,ya]
  rw[<-hsn]at e1;have hw:=im k;generalize ofQ (gd (v.take k))=P at *
  generalize hP2:ofQ (gd (v.take (k+1)))=P2 at *
  refine aZ hx ?_;refine G e1 ?_;refine H ?_;exact⟨k+1,hlt,J,O,O,O,O,congrArg I hw,O,by rw[hP2];rfl,bP⟩
 .have hge:k=v.length:=cG h;clear h;subst hge;rw[bM];generalize ofQ (gd v)=P at *
  exact cy
theorem n_ (p q:Rat)(N:Nat)(hp:hq p N)(hq':hq q N)(hN:N<=3000000):bb 105 [.sl [eR (ofQ p),eR (ofQ q)]] (.agg (eR (ofQ (p*q)))):=by
 have h:=mf [p,q] N (fun x hx=>by
  simp only[cw,tP,or_false]at hx;rcases hx with rfl|rfl
  .exact hp
  .exact hq') aj hN
 rw[show gd [p,q]=p*q by show 1*p*q=_;rw[pr]]at h;exact h
theorem uG (p q r:Rat)(N:Nat)(hp:hq p N)(hq':hq q N)(hr:hq r N)(hN:N<=3000000):bb 105 [.sl [eR (ofQ p),eR (ofQ q),eR (ofQ r)]] (.agg (eR (ofQ (p*q*r)))):=by
 have h:=mf [p,q,r] N (fun x hx=>by
  simp only[cw,tP,or_false]at hx;rcases hx with rfl|rfl|rfl
  .exact hp
  .exact hq'
  .exact hr) aj hN
 rw[show gd [p,q,r]=p*q*r by show 1*p*q*r=_;rw[pr]]at h;exact h
theorem Ij (p q r s t:Rat)(N:Nat)(hp:hq p N)(hq':hq q N)(hr:hq r N)(hs:hq s N)(ht:hq t N)(hN:N<=3000000):bb 105 [.sl [eR (ofQ p),eR (ofQ q),eR (ofQ r),eR (ofQ s),eR (ofQ t)]] (.agg (eR (ofQ (p*q*r*s*t)))):=by
 have h:=mf [p,q,r,s,t] N (fun x hx=>by
  simp only[cw,tP,or_false]at hx;rcases hx with rfl|rfl|rfl|rfl|rfl
  .exact hp
  .exact hq'
  .exact hr
  .exact hs
  .exact ht) aj hN
 rw[show gd [p,q,r,s,t]=p*q*r*s*t by show 1*p*q*r*s*t=_;rw[pr]]at h;exact h
theorem vX {t:ST}(ok:StOk t)(k:Nat):HQ (eE t k) 4:=by
 have:0<=t.L.getD k 0/\t.L.getD k 0<=100000:=by
  rcases aT k t.L.length with h|h
  .exact ok.L _ (bG (br (d:=0) h))
  .rw[cH,dF h];decide
 have z:Zb (t.L.getD k 0):=aL J J;exact HQ.int
theorem vF {t:ST}(ok:StOk t)(k:Nat):0<=t.H0.getD k 0/\t.H0.getD k 0<=100000:=by
 rcases aT k t.H0.length with h|h
 .exact ok.H0 _ (bG (br (d:=0) h))
 .rw[cH,dF h];decide
theorem CT {t:ST}(ok:StOk t)(k:Nat):HQ (rx t k) 4:=by
 have:=vF ok k;have z:Zb (2*t.H0.getD k 0):=aL J J;exact HQ.int
theorem xP {t:ST}(ok:StOk t){y:Rat}{N:Nat}(hy:hq y N)(k:Nat):HQ (fL t y k) (N+9):=by
 have a:=vX ok k;have b:=vX ok (k+1);rw[fL];split
 .exact HQ.zero.mono J
 .split
  .exact(@HQ.sub _ _ N 4 ⟨hy⟩ a).mono J
  .exact(@HQ.sub _ _ 4 4 b a).mono J
theorem Cb {t:ST}(ok:StOk t){y:Rat}{N:Nat}(hy:hq y N):∀k,HQ (ri t y k) (k*(N+14)+4)
 |0=>HQ.zero.mono J
 |k+1=>by
  rw[ri];exact(@HQ.add _ _ _ _ (Cb ok hy k) (@HQ.mul _ _ 4 _ (CT ok k) (xP ok hy k))).mono (by rw[be];omega)
theorem Dg {t:ST}(ok:StOk t){y:Rat}{N:Nat}(hy:hq y N)(k:Nat):HQ (FH t y k) (2*N+40):=by
 have z:Zb 2:=aL Y Y;have l:=vX ok k;have e:=xP ok hy k;rw[FH,show(2:Rat)=((2:Int):Rat) from O];exact(@HQ.div _ _ _ 4 (@HQ.mul _ _ _ _ (@HQ.mul _ _ 4 _ (CT ok k) e) (@HQ.add _ _ 4 _ l (@HQ.add _ _ 4 _ l e))) HQ.int).mono J
theorem Di {t:ST}(ok:StOk t){y:Rat}{N:Nat}(hy:hq y N):∀k,HQ (t_ t y k) (k*(2*N+41)+4)
 |0=>HQ.zero.mono J
 |k+1=>by
  rw[t_];exact(@HQ.add _ _ _ _ (Di ok hy k) (Dg ok hy k)).mono (by rw[be];omega)
theorem ta (t:ST)(ok:StOk t)(h8:t.L.length<=8){y:Rat}{N:Nat}(hy:hq y N)(hN:N<=100000):bb 107 [.agg (eT t),.agg (eR (ofQ y))] (.agg (eR (ofQ (uK t y))++eR (ofQ (FG t y)))):=by
 have w0:=ct 0 ⟨Y,Y⟩;rw[show((0:Int):Rat)=0 from O]at w0;have w2:=ct 2 ⟨Y,Y⟩;have hLH:=ok.h;have hmh:(t.H0.map eN).length=t.H0.length:=aj;have hHl:t.H0.length<=7:=J;have hlv:=vX ok;have hfi:=vF ok;have hfh:=CT ok;have hlen:=fun k=>xP ok hy k;have har:=fun k=>Cb ok hy k;have hmo:=fun k=>Di ok hy k;have hmt:=fun k=>Dg ok hy k;have hdry:=fun k (hk:k<t.H0.length) (h:y<=eE t k)=>AF ok hk h t.H0.length (je hk) (aH);have hlvi:∀k,k<t.L.length->∃n,t.L[k]?=some n/\eE t k=((n:Int):Rat)/\i64 n:=fun k hk=>by
  have h0:t.L[k]?=some (t.L.getD k 0):=br (d:=0) hk;have:=ok.L _ (bG h0);exact⟨_,h0,O,⟨J,J⟩⟩
 have hhi:∀k,k<t.H0.length->t.H0[k]?=some (t.H0.getD k 0):=fun k hk=>br (d:=0) hk;have z2:Zb 2:=aL Y Y;rw[uK,FG];refine ay Proofs.Tryz.func107 ?_;refine G w0 ?_;refine G w0 ?_;refine H ?_;rw[hmh];refine cA [(2,.ptr 2 1 0 0),(3,.ptr 3 1 0 0),(4,.ptr 4 1 0 0),(5,.ptr 5 1 0 0),(15,.sl (t.H0.map eN)),(16,I t.H0.length),(17,I ((0:Nat):Int))] [(2,1,⟨115,4,[eT t],2⟩),(3,1,⟨41,4,[eR (ofQ y)],2⟩),(4,1,⟨184,8,[zN++zN],2⟩),(5,1,⟨184,8,[eR (ofQ 0)++eR (ofQ 0)],2⟩)] ak ?_;intro s0;refine ao (fun k:Nat=>k<=t.H0.length) (fun k=>[(2,.ptr 2 1 0 0),(3,.ptr 3 1 0 0),(4,.ptr 4 1 0 0),(5,.ptr 5 1 0 0),(15,.sl (t.H0.map eN)),(16,I t.H0.length),(17,I (k:Nat))]) (fun k=>[(2,1,⟨115,4,[eT t],2⟩),(3,1,⟨41,4,[eR (ofQ y)],2⟩),(4,1,⟨184,8,[zN++zN],2⟩),(5,1,⟨184,8,[eR (ofQ (ri t y k))++eR (ofQ (t_ t y k))],2⟩)]) (fun k=>t.H0.length-k) 0 (aF _) ak ?_;intro k s hk;refine D ?_ ?_<;>intro h
 .have hlt:k<t.H0.length:=cP h;clear h;have hx:=hhi k hlt;obtain⟨lo,hlo,hloq,hloi⟩:=hlvi k J;obtain⟨hi,hhii,hhiq,hhi64⟩:=hlvi (k+1) J;have hdr:=hdry k hlt;have q1:=im k;have hfi:=hfi k;have q2:=An (2*t.H0.getD k 0);have a1:=ct lo hloi;have a2:=ct hi hhi64;rw[<-hloq]at a1;rw[<-hhiq]at a2;have c1:=mt (ofQ y) (ofQ (eE t k)) (hx:=Vq.ofQ (h:=⟨hy⟩)) (hy:=Vq.ofQ (h:=hlv k)) J Y;have c2:=mt (ofQ y) (ofQ (eE t (k+1))) (hx:=Vq.ofQ (h:=⟨hy⟩)) (hy:=Vq.ofQ (h:=hlv (k+1))) J Y;have s1:=Eb (y-eE t k);have s2:=dU (y-eE t (k+1));have a3:=ct (2*t.H0.getD k 0) ⟨J,J⟩;rw[show((2*t.H0.getD k 0:Int):Rat)=rx t k from O]at a3;refine aZ hx ?_;refine dN 5 ?_;refine qG [(13,8),(14,9),(15,8),(16,9)] aN aN ?_;refine aZ hlo ?_;refine G a1 ?_;refine H ?_;rw[q1];refine bX O O (ka (n:=((((k+1:Nat):Int)):Int)) O O O O O J hhii O) ?_;refine G a2 ?_;refine H ?_;refine Iu O O O O O ?_;refine Iu O O O O O ?_;refine Iv 2 O O O O O O (fun _=>rfl) ak O O O O ?_;refine Iv 2 O O O O O O (fun _=>rfl) ak O O O O ?_;refine aB c1 ?_;refine D ?_ ?_<;>intro h
  .have hd:=hdr (by have:=s1.1 (bK h);grind);clear h;rw[<-hd.1,<-hd.2];generalize ofQ (ri t y t.H0.length)=E1,ofQ (t_ t y t.H0.length)=E2 at *
   exact cy
  have hy1:¬y<=eE t k:=fun e=>(cJ h) (s1.2 aW);clear h hdr;have main:∀T:Rat,T=(if y<eE t (k+1) then y else eE t (k+1))->(hq T (N+5)/\T-eE t k=fL t y k/\FH t y k=rx t k*fL t y k*(eE t k+T)/2):=fun T hT=>by
   have e1:T-eE t k=fL t y k:=by rw[hT,fL,if_neg hy1];split<;>rfl
   refine⟨?_,e1,?_⟩
   .rw[hT];split
    .exact(HQ.mono (q:=y) (h:=⟨hy⟩) J).ok
    .exact(HQ.mono (h:=hlv (k+1)) J).ok
   .rw[FH,show eE t k+fL t y k=T by rw[<-e1];grind]
  obtain⟨T,hT⟩:∃T,T=if y<eE t (k+1) then y else eE t (k+1):=⟨_,O⟩
  obtain⟨hTq,hTl,hTm⟩:=main T hT;clear main;have hlk:=hlen k;have hhl:HQ (rx t k*fL t y k) (N+13):=(@HQ.mul _ _ 4 _ (hfh k) hlk).mono J;have hlt':HQ (eE t k+T) (N+10):=(@HQ.add _ _ 4 (N+5) (hlv k) ⟨hTq⟩).mono J;have hpr:HQ (rx t k*fL t y k*(eE t k+T)) (2*N+24):=(@HQ.mul _ _ _ _ hhl hlt').mono J;have a4:=mc (ofQ T) (ofQ (eE t k)) (hx:=Vq.ofQ (h:=⟨hTq⟩)) (hy:=Vq.ofQ (h:=hlv k)) J Y;rw[hTl]at a4;have a5:=n_ (rx t k) (fL t y k) (N+9) ((hfh k).mono J).ok hlk.ok J;have hark:k*(N+14)<=7*(N+14):=cm _ J;have hmok:k*(2*N+41)<=7*(2*N+41):=cm _ J;have a6:=dh (ofQ (ri t y k)) (ofQ (rx t k*fL t y k)) (hx:=Vq.ofQ (h:=har k)) (hy:=Vq.ofQ (h:=hhl)) J J;rw[show ri t y k+rx t k*fL t y k=ri t y (k+1) from O]at a6;have a7:=dh (ofQ (eE t k)) (ofQ T) (hx:=Vq.ofQ (h:=hlv k)) (hy:=Vq.ofQ (h:=⟨hTq⟩)) Y J;have a8:=n_ (rx t k*fL t y k) (eE t k+T) (N+13) hhl.ok (hlt'.mono J).ok J;have a9:=lr (ofQ (rx t k*fL t y k*(eE t k+T))) (ofQ ((2:Int):Rat)) (hx:=Vq.ofQ (h:=hpr)) (hy:=Vq.ofQ (h:=HQ.int)) J Y aN;have hmd:HQ (rx t k*fL t y k*(eE t k+T)/2) (2*N+40):=by rw[<-hTm];exact hmt k
  rw[show((2:Int):Rat)=2 from O]at a9 w2;have a10:=dh (ofQ (t_ t y k)) (ofQ (rx t k*fL t y k*(eE t k+T)/2)) (hx:=Vq.ofQ (h:=hmo k)) (hy:=Vq.ofQ (h:=hmd)) J J;rw[<-hTm,show t_ t y k+FH t y k=t_ t y (k+1) from O]at a10;rw[hTm]at a10;clear hhl hlt' hpr hmd hlk hTq hTm hTl hark hmok;by_cases hyy:y<eE t (k+1)
  .rw[if_pos hyy]at hT;have hT:=hT.symm;subst hT;have hgy:sgn (y-eE t (k+1))<0:=s2.2 aW;generalize fL t y k=ln,rx t k=hf,eE t k=lq at *
   generalize hAR:ofQ (ri t y (k+1))=AR at *
   generalize hMO:ofQ (t_ t y (k+1))=MO at *
   generalize ofQ (ri t y k)=AR0,ofQ (t_ t y k)=MO0,ofQ y=TT,ofQ ln=LN,ofQ hf=HF,ofQ lq=LQ,ofQ (hf*ln)=HL,ofQ (lq+y)=LT,ofQ (hf*ln*(lq+y))=HLT,ofQ (hf*ln*(lq+y)/2)=HLD,ofQ 2=W2 at *
   refine aB c2 ?_;refine H ?_;rw[decide_eq_true hgy];refine H ?_;refine dN 9 ?_;refine ax (jW 10) ?_;refine cp [(8,10),(9,10)] aN aN ?_;refine H ?_;rw[q2];refine yd O O O a3 O O ?_;refine G a4 ?_;refine H ?_;refine bX O O (eu O O O O O O O O O O ak O) ?_;refine G a5 ?_;refine G a6 ?_;refine H ?_;refine cd [] [5] 11 [11,12] aN aN ?_;refine G a7 ?_;refine H ?_;refine bX O O (eu O O O O O O O O O O ak O) ?_;refine G a8 ?_;refine G w2 ?_;refine G a9 ?_;refine G a10 ?_;refine H ?_;exact⟨k+1,hlt,J,O,O,O,O,O,O,congrArg I q1,O,O,O,by rw[hAR,hMO];rfl,bP⟩
  .rw[if_neg hyy]at hT;have hT:=hT.symm;subst hT;have hgy:¬sgn (y-eE t (k+1))<0:=fun e=>hyy (by have:=s2.1 e;grind);generalize eE t (k+1)=T,fL t y k=ln,rx t k=hf,eE t k=lq at *
   generalize hAR:ofQ (ri t y (k+1))=AR at *
   generalize hMO:ofQ (t_ t y (k+1))=MO at *
   generalize ofQ (ri t y k)=AR0,ofQ (t_ t y k)=MO0,ofQ T=TT,ofQ ln=LN,ofQ hf=HF,ofQ lq=LQ,ofQ (hf*ln)=HL,ofQ (lq+T)=LT,ofQ (hf*ln*(lq+T))=HLT,ofQ (hf*ln*(lq+T)/2)=HLD,ofQ 2=W2 at *
   refine aB c2 ?_;refine H ?_;rw[decide_eq_false hgy];refine H ?_;refine dN 9 ?_;refine ax (jW 10) ?_;refine cp [(8,10),(9,10)] aN aN ?_;refine H ?_;rw[q2];refine yd O O O a3 O O ?_;refine G a4 ?_;refine H ?_;refine bX O O (eu O O O O O O O O O O ak O) ?_;refine G a5 ?_;refine G a6 ?_;refine H ?_;refine cd [] [5] 11 [11,12] aN aN ?_;refine G a7 ?_;refine H ?_;refine bX O O (eu O O O O O O O O O O ak O) ?_;refine G a8 ?_;refine G w2 ?_;refine G a9 ?_;refine G a10 ?_;refine H ?_;exact⟨k+1,hlt,J,O,O,O,O,O,O,congrArg I q1,O,O,O,by rw[hAR,hMO];rfl,bP⟩
 .have hge:k=t.H0.length:=cG h;clear h;subst hge;generalize ofQ (ri t y t.H0.length)=E1,ofQ (t_ t y t.H0.length)=E2 at *
  exact cy
theorem vC {t:ST}{y:Rat}{n k:Nat}:GY t y (n+1) k=if eE t k<=y/\y<eE t (k+1) then t.H0.getD k 0 else GY t y n (k+1):=rfl
theorem GZ {t:ST}(ok:StOk t)(y:Rat):0<=li t y/\li t y<=100000:=by
 have key:∀n k,0<=GY t y n k/\GY t y n k<=100000:=by
  intro n
  induction n with
  |zero=>intro k;exact⟨mS _,by show(0:Int)<=100000;decide⟩
  |succ n ih =>
   intro k;rw[vC];split
   .exact vF ok k
   .exact ih (k+1)
 exact key _ _
theorem y3 (x:RR){p:Rat}{n:Nat}[hx:Vq x p n](hn:n<=8000000):bb 177 [.agg (eR x)] (.bool (decide (p=0))):=by
 have w:=ct 0 ⟨Y,Y⟩;rw[show((0:Int):Rat)=0 from O]at w;have c:=mt x (ofQ 0) (hy:=Vq.ofQ (h:=HQ.zero)) hn Y;rw[kz,Rat.neg_zero,pn]at c;have hd:decide (p=0)=decide (sgn p=0):=decide_eq_decide.2 (l_ p).symm;rw[hd];generalize ofQ 0=Z,sgn p=g at *
 refine ay Proofs.Tryz.func177 ?_;refine dg 5 [3,4,5,6,2] ?_;refine G w ?_;refine aB c ?_;exact rq
theorem uW (t:ST)(ok:StOk t){y:Rat}{N:Nat}(hy:hq y N)(hN:N<=7000000):bb 175 [.agg (eT t),.agg (eR (ofQ y))] (I (li t y)):=by
 have hLH:=ok.h;have hLn:=ok.n;have hmh:(t.H0.map eN).length=t.H0.length:=aj;have hlv:=vX ok;have hlvi:∀k,k<t.L.length->∃n,t.L[k]?=some n/\eE t k=((n:Int):Rat)/\i64 n:=fun k hk=>by
  have h0:t.L[k]?=some (t.L.getD k 0):=br (d:=0) hk;have:=ok.L _ (bG h0);exact⟨_,h0,O,⟨J,J⟩⟩
 have hhi:∀k,k<t.H0.length->t.H0[k]?=some (t.H0.getD k 0):=fun k hk=>br (d:=0) hk;generalize hR:li t y=R;rw[li]at hR;refine ay Proofs.Tryz.func175 ?_;refine H ?_;rw[hmh];refine ao (fun k:Nat=>k<=t.H0.length/\GY t y (t.H0.length-k) k=R) (fun k=>[(2,.ptr 2 1 0 0),(3,.ptr 3 1 0 0),(8,.sl (t.H0.map eN)),(9,I t.H0.length),(10,I (k:Nat))]) (fun k=>[(2,1,⟨115,4,[eT t],2⟩),(3,1,⟨41,4,[eR (ofQ y)],2⟩)]) (fun k=>t.H0.length-k) 0 ⟨aF _,hR⟩ ak ?_;rintro k s ⟨hk,hall⟩;refine D ?_ ?_<;>intro h
 .have hlt:k<t.H0.length:=cP h;clear h;have hx:=hhi k hlt;obtain⟨lo,hlo,hloq,hloi⟩:=hlvi k J;obtain⟨hi,hhii,hhiq,hhi64⟩:=hlvi (k+1) J;have q1:=im k;have a1:=ct lo hloi;have a2:=ct hi hhi64;rw[<-hloq]at a1;rw[<-hhiq]at a2;have c1:=mt (ofQ y) (ofQ (eE t k)) (hx:=Vq.ofQ (h:=⟨hy⟩)) (hy:=Vq.ofQ (h:=hlv k)) J Y;have c2:=mt (ofQ y) (ofQ (eE t (k+1))) (hx:=Vq.ofQ (h:=⟨hy⟩)) (hy:=Vq.ofQ (h:=hlv (k+1))) J Y;have s1:=Ea (y-eE t k);have s2:=dU (y-eE t (k+1));have e1:0<=y-eE t k↔eE t k<=y:=by constructor<;>intro h<;>grind
  have e2:y-eE t (k+1)<0↔y<eE t (k+1):=by constructor<;>intro h<;>grind
  rw[e1]at s1;rw[e2]at s2;rw[show t.H0.length-k=(t.H0.length-(k+1))+1 by omega,vC]at hall;generalize sgn (y-eE t k)=g1,sgn (y-eE t (k+1))=g2,ofQ (eE t k)=A1,ofQ (eE t (k+1))=A2,t.H0.getD k 0=h0 at *
  refine aZ hx ?_;refine dg 21 [15,16,17,18,19,20,21,22,23,24,25,26,27,28,29,30,31,32,33,34,35] ?_;refine aZ hlo ?_;refine G a1 ?_;refine aB c1 ?_;refine H ?_;by_cases d1:0<=g1
  rotate_left
  .rw[if_neg (fun e=>d1 (s1.2 e.1))]at hall;rw[decide_eq_false d1];refine H ?_;exact⟨k+1,⟨hlt,hall⟩,J,O,O,O,O,congrArg I q1,ak⟩
  rw[decide_eq_true d1];refine H ?_;rw[q1];refine bX O O (ka (n:=((((k+1:Nat):Int)):Int)) O O O O O J hhii O) ?_;refine G a2 ?_;refine aB c2 ?_;refine H ?_;by_cases d2:g2<0
  .rw[if_pos ⟨s1.1 d1,s2.1 d2⟩]at hall;rw[decide_eq_true d2];subst hall;exact dL
  .rw[if_neg (fun e=>d2 (s2.2 e.2))]at hall;rw[decide_eq_false d2];refine H ?_;exact⟨k+1,⟨hlt,hall⟩,J,O,O,O,O,congrArg I q1,ak⟩
 .have hge:k=t.H0.length:=cG h;clear h;subst hge;rw[fU,GY]at hall;subst hall;exact dL
def AQ (M:Nat)(y q:Rat):Prop:=∃a b:Int,a.natAbs<=M/\b.natAbs<=M/\q=(a:Rat)+(b:Rat)*y
def PQ (M:Nat)(y q:Rat):Prop:=∃a b c:Int,a.natAbs<=M/\b.natAbs<=M/\c.natAbs<=M/\q=(a:Rat)+(b:Rat)*y+(c:Rat)*(y*y)
def AZ (M:Nat)(z u q:Rat):Prop:=∃a b c:Int,a.natAbs<=M/\b.natAbs<=M/\c.natAbs<=M/\q=(a:Rat)+(b:Rat)*z+(c:Rat)*u
def PZ (M:Nat)(z u q:Rat):Prop:=∃a b c d e f:Int,a.natAbs<=M/\b.natAbs<=M/\c.natAbs<=M/\d.natAbs<=M/\e.natAbs<=M/\f.natAbs<=M/\q=(a:Rat)+(b:Rat)*z+(c:Rat)*u+(d:Rat)*(z*z)+(e:Rat)*(z*u)+(f:Rat)*(u*u)
theorem qC {a b:Int}{M K:Nat}(ha:a.natAbs<=M)(hb:b.natAbs<=K):(a*b).natAbs<=M*K:=by
 rw[f8];exact dr ha hb
theorem mU {a b:Int}{M K:Nat}(ha:a.natAbs<=M)(hb:b.natAbs<=K):(a+b).natAbs<=M+K:=bz (Int.natAbs_add_le a b) (Nat.add_le_add ha hb)
theorem AQ.add {M K:Nat}{y p q:Rat}(h1:AQ M y p)(h2:AQ K y q):AQ (M+K) y (p+q):=by
 obtain⟨a,b,ha,hb,rfl⟩:=h1;obtain⟨c,d,hc,hd,rfl⟩:=h2;refine⟨a+c,b+d,mU ha hc,mU hb hd,?_⟩;rw[Rat.intCast_add,Rat.intCast_add];grind
theorem PQ.add {M K:Nat}{y p q:Rat}(h1:PQ M y p)(h2:PQ K y q):PQ (M+K) y (p+q):=by
 obtain⟨a,b,c,ha,hb,hc,rfl⟩:=h1;obtain⟨d,e,f,hd,he,hf,rfl⟩:=h2;refine⟨a+d,b+e,c+f,mU ha hd,mU hb he,mU hc hf,?_⟩;rw[Rat.intCast_add,Rat.intCast_add,Rat.intCast_add];grind
theorem AZ.add {M K:Nat}{z u p q:Rat}(h1:AZ M z u p)(h2:AZ K z u q):AZ (M+K) z u (p+q):=by
 obtain⟨a,b,c,ha,hb,hc,rfl⟩:=h1;obtain⟨d,e,f,hd,he,hf,rfl⟩:=h2;refine⟨a+d,b+e,c+f,mU ha hd,mU hb he,mU hc hf,?_⟩;rw[Rat.intCast_add,Rat.intCast_add,Rat.intCast_add];grind
theorem PZ.add {M K:Nat}{z u p q:Rat}(h1:PZ M z u p)(h2:PZ K z u q):PZ (M+K) z u (p+q):=by
 obtain⟨a,b,c,d,e,f,ha,hb,hc,hd,he,hf,rfl⟩:=h1;obtain⟨a',b',c',d',e',f',ha',hb',hc',hd',he',hf',rfl⟩:=h2;refine⟨a+a',b+b',c+c',d+d',e+e',f+f',mU ha ha',mU hb hb',mU hc hc',mU hd hd',mU he he',mU hf hf',?_⟩;rw[Rat.intCast_add,Rat.intCast_add,Rat.intCast_add,Rat.intCast_add,Rat.intCast_add,Rat.intCast_add];grind
theorem zi {t:ST}(ok:StOk t)(k:Nat):0<=t.L.getD k 0/\t.L.getD k 0<=100000:=by
 rcases aT k t.L.length with h|h
 .exact ok.L _ (bG (br (d:=0) h))
 .rw[cH,dF h];decide
theorem E6 {t:ST}(ok:StOk t)(y:Rat)(k:Nat):AQ 20000000000 y (rx t k*fL t y k):=by
 have hf:=vF ok k;have l0:=zi ok k;have l1:=zi ok (k+1);rw[fL,rx,eE,eE];generalize t.H0.getD k 0=h,t.L.getD k 0=a,t.L.getD (k+1) 0=b at *
 have z2:((2:Int):Rat)=2:=O;have z0:((0:Int):Rat)=0:=O;split
 .exact⟨0,0,Y,Y,by rw[z0];grind⟩
 split
 .refine⟨-(2*h*a),2*h,?_,J,?_⟩
  .rw[pg];exact qC (M:=200000) (K:=100000) J J
  .rw[Rat.intCast_neg,Rat.intCast_mul,Rat.intCast_mul,z2];grind
 .refine⟨2*h*(b-a),0,qC (M:=200000) (K:=100000) J J,Y,?_⟩;rw[Rat.intCast_mul,Rat.intCast_mul,Rat.intCast_sub,z2,z0];grind
theorem FI {t:ST}(ok:StOk t)(y:Rat)(k:Nat):PQ 2000000000000000 y (FH t y k):=by
 have hf:=vF ok k;have l0:=zi ok k;have l1:=zi ok (k+1);rw[FH,fL,rx,eE,eE];generalize t.H0.getD k 0=h,t.L.getD k 0=a,t.L.getD (k+1) 0=b at *
 have z2:((2:Int):Rat)=2:=O;have z0:((0:Int):Rat)=0:=O;split
 .exact⟨0,0,0,Y,Y,Y,by rw[z0];grind⟩
 split
 .refine⟨-(h*(a*a)),0,h,?_,Y,J,?_⟩
  .rw[pg];exact bz (qC (M:=100000) (K:=10000000000) J (qC (M:=100000) (K:=100000) J J)) Y
  .rw[Rat.intCast_neg,Rat.intCast_mul,Rat.intCast_mul,Rat.intCast_mul,z2,z0];grind
 .refine⟨h*((b-a)*(b+a)),0,0,?_,Y,Y,?_⟩
  .exact qC (M:=100000) (K:=20000000000) J (qC (M:=100000) (K:=200000) J J)
  .rw[Rat.intCast_mul,Rat.intCast_mul,Rat.intCast_mul,Rat.intCast_sub,Rat.intCast_add,z2,z0];grind
theorem Ca {t:ST}(ok:StOk t)(y:Rat):∀k,AQ (k*20000000000) y (ri t y k)
 |0=>⟨0,0,Y,Y,by show(0:Rat)=((0:Int):Rat)+((0:Int):Rat)*y;rw[show((0:Int):Rat)=0 from rfl];grind⟩
 |k+1=>by rw[ri,be,dH];exact(Ca ok y k).add (E6 ok y k)
theorem Dh {t:ST}(ok:StOk t)(y:Rat):∀k,PQ (k*2000000000000000) y (t_ t y k)
 |0=>⟨0,0,0,Y,Y,Y,by show(0:Rat)=((0:Int):Rat)+((0:Int):Rat)*y+((0:Int):Rat)*(y*y);rw[show((0:Int):Rat)=0 from rfl];grind⟩
 |k+1=>by rw[t_,be,dH];exact(Dh ok y k).add (FI ok y k)
theorem AQ.mono {M K:Nat}{y q:Rat}(h:AQ M y q)(hm:M<=K):AQ K y q:=by
 obtain⟨a,b,ha,hb,e⟩:=h;exact⟨a,b,J,J,e⟩
theorem PQ.mono {M K:Nat}{y q:Rat}(h:PQ M y q)(hm:M<=K):PQ K y q:=by
 obtain⟨a,b,c,ha,hb,hc,e⟩:=h;exact⟨a,b,c,J,J,J,e⟩
def bL (z s:Rat)(t:ST):Rat:=wQ t*uK t (cg z s t)
def qY (z s:Rat)(t:ST):Rat:=wQ t*uK t (cg z s t)*xQ t
def lz (z s:Rat)(t:ST):Rat:=wQ t*FG t (cg z s t)
def iK (z s:Rat)(t:ST):Rat:=ci z s t*xQ t
def fw (z s:Rat)(t:ST):Rat:=2*(li t (cg z s t):Rat)*(li t (cg z s t):Rat)*(li t (cg z s t):Rat)*wQ t/3
def kZ (z s:Rat)(t:ST):Rat:=ci z s t*xQ t*xQ t
theorem Ai {t:ST}(ok:StOk t)(h8:t.L.length<=8)(z u:Rat):AZ 14000000000000000000000 z u (bL z u t):=by
 have hw:=ok.w;have hx:=ok.x;have hH:=ok.h;obtain⟨a,b,ha,hb,e⟩:=(Ca ok (cg z u t) t.H0.length).mono (K:=140000000000) J;refine⟨t.w*a,t.w*b,t.w*(b*t.x),?_,?_,?_,?_⟩
 .exact bz (qC (M:=100000) J ha) Y
 .exact bz (qC (M:=100000) J hb) Y
 .exact bz (qC (M:=100000) J (qC (K:=1000000) hb J)) Y
 .rw[bL,uK,e,cg,wQ,Rat.intCast_mul,Rat.intCast_mul,Rat.intCast_mul,Rat.intCast_mul];grind
theorem Ih {t:ST}(ok:StOk t)(h8:t.L.length<=8)(z u:Rat):AZ 14000000000000000000000000000 z u (qY z u t):=by
 have hx:=ok.x;obtain⟨a,b,c,ha,hb,hc,e⟩:=Ai ok h8 z u;refine⟨a*t.x,b*t.x,c*t.x,?_,?_,?_,?_⟩
 .exact qC (K:=1000000) ha J
 .exact qC (K:=1000000) hb J
 .exact qC (K:=1000000) hc J
 .rw[show qY z u t=bL z u t*xQ t from O,e,xQ,Rat.intCast_mul,Rat.intCast_mul,Rat.intCast_mul];grind
theorem Ii {t:ST}(ok:StOk t)(h8:t.L.length<=8)(z u:Rat):PZ 2800000000000000000000000000000000 z u (lz z u t):=by
 have hw:=ok.w;have hx:=ok.x;have hH:=ok.h;obtain⟨a,b,c,ha,hb,hc,e⟩:=(Dh ok (cg z u t) t.H0.length).mono (K:=14000000000000000) J;refine⟨t.w*a,t.w*b,t.w*(b*t.x),t.w*c,t.w*(c*(2*t.x)),t.w*(c*(t.x*t.x)),?_,?_,?_,?_,?_,?_,?_⟩
 .exact bz (qC (M:=100000) J ha) Y
 .exact bz (qC (M:=100000) J hb) Y
 .exact bz (qC (M:=100000) J (qC (K:=1000000) hb J)) Y
 .exact bz (qC (M:=100000) J hc) Y
 .exact bz (qC (M:=100000) J (qC (K:=2000000) hc J)) Y
 .exact bz (qC (M:=100000) J (qC (K:=1000000000000) hc (qC (M:=1000000) (K:=1000000) J J))) Y
 .rw[lz,FG,e,cg,wQ];simp only[ja];rw[show((2:Int):Rat)=2 from O];grind
theorem n9 {P:Nat->Rat->Prop}{f:ST->Rat}{M:Nat}(h0:P 0 0)(ha:∀n p q,P n p->P M q->P (n+M) (p+q)){l:List ST}(h:∀t∈l,P M (f t))(i:Nat):P ((l.take i).length*M) (ap f (l.take i)):=by
 have key:∀(l:List ST) (a:Rat) (m:Nat),P m a->(∀t∈l,P M (f t))->P (m+l.length*M) (l.foldl (fun a t=>a+f t) a):=by
  intro l
  induction l with
  |nil=>intro a m ha _;simpa using ha
  |cons x l ih =>
   intro a m h1 hl;rw[iz,eJ];have:=ih (a+f x) (m+M) (ha _ _ _ h1 (hl x fO)) fun q hq=>hl q (ir _ hq);rwa [show m+M+l.length*M=m+(l.length+1)*M by rw[be];omega]at this
 have:=key (l.take i) 0 0 h0 fun t ht=>h t (gp ht);rwa [aG]at this
theorem AZ.zero (z u:Rat):AZ 0 z u 0:=⟨0,0,0,Y,Y,Y,by rw[show((0:Int):Rat)=0 from O];grind⟩
theorem PZ.zero (z u:Rat):PZ 0 z u 0:=⟨0,0,0,0,0,0,Y,Y,Y,Y,Y,Y,by rw[show((0:Int):Rat)=0 from O];grind⟩
theorem Fz {a:Int}{M:Nat}(h:a.natAbs<=M)(hM:M<65536^8):HQ (a:Rat) 8:=⟨i5 (jo h hM) Y⟩
theorem AZ.hq {M:Nat}{z u q:Rat}{n m:Nat}(h:AZ M z u q)(hM:M<65536^8)(hz:hq z n)(hu:hq u m):HQ q (n+m+26):=by
 obtain⟨a,b,c,ha,hb,hc,rfl⟩:=h;exact(@HQ.add _ _ _ _ (@HQ.add _ _ 8 (8+n) (Fz ha hM) (@HQ.mul _ _ 8 n (Fz hb hM) ⟨hz⟩)) (@HQ.mul _ _ 8 m (Fz hc hM) ⟨hu⟩)).mono J
theorem PZ.hq {M:Nat}{z u q:Rat}{n m:Nat}(h:PZ M z u q)(hM:M<65536^8)(hz:hq z n)(hu:hq u m):HQ q (4*(n+m)+53):=by
 obtain⟨a,b,c,d,e,f,ha,hb,hc,hd,he,hf,rfl⟩:=h;exact(@HQ.add _ _ _ _ (@HQ.add _ _ _ _ (@HQ.add _ _ _ _ (@HQ.add _ _ _ _ (@HQ.add _ _ 8 (8+n) (Fz ha hM) (@HQ.mul _ _ 8 n (Fz hb hM) ⟨hz⟩)) (@HQ.mul _ _ 8 m (Fz hc hM) ⟨hu⟩)) (@HQ.mul _ _ 8 _ (Fz hd hM) (@HQ.mul _ _ n n ⟨hz⟩ ⟨hz⟩))) (@HQ.mul _ _ 8 _ (Fz he hM) (@HQ.mul _ _ n m ⟨hz⟩ ⟨hu⟩))) (@HQ.mul _ _ 8 _ (Fz hf hM) (@HQ.mul _ _ m m ⟨hu⟩ ⟨hu⟩))).mono J
theorem Gr {l:List ST}(hs:∀t∈l,StOk t)(h8:∀t∈l,t.L.length<=8)(h6:l.length<=6){z u:Rat}{n m:Nat}(hz:hq z n)(hu:hq u m)(i:Nat):HQ (ap (bL z u) (l.take i)) (n+m+26)/\HQ (ap (qY z u) (l.take i)) (n+m+26)/\HQ (ap (lz z u) (l.take i)) (4*(n+m)+53):=by
 have hl:(l.take i).length<=6:=by rw[bI];omega
 refine⟨?_,?_,?_⟩
 .refine(n9 (P:=fun M q=>AZ M z u q) (AZ.zero z u) (fun n p q h1 h2=>h1.add h2) (fun t ht=>Ai (hs t ht) (h8 t ht) z u) i).hq ?_ hz hu;exact jo (cm _ hl) Y
 .refine(n9 (P:=fun M q=>AZ M z u q) (AZ.zero z u) (fun n p q h1 h2=>h1.add h2) (fun t ht=>Ih (hs t ht) (h8 t ht) z u) i).hq ?_ hz hu;exact jo (cm _ hl) Y
 .refine(n9 (P:=fun M q=>PZ M z u q) (PZ.zero z u) (fun n p q h1 h2=>h1.add h2) (fun t ht=>Ii (hs t ht) (h8 t ht) z u) i).hq ?_ hz hu;exact jo (cm _ hl) Y
theorem Gq {M:Nat}{f:ST->Rat}{l:List ST}(h:∀t∈l,hq (f t) M):hq (ap f l) ((M+1)*l.length+4):=by
 have key:∀(l:List ST) (a:Rat) (m:Nat),hq a m->(∀t∈l,hq (f t) M)->hq (l.foldl (fun a t=>a+f t) a) (m+(M+1)*l.length):=by
  intro l
  induction l with
  |nil=>intro a m ha _;simpa using ha
  |cons x l ih =>
   intro a m ha hl;rw[iz,eJ];have:=ih (a+f x) (m+M+1) (@HQ.add a (f x) m M ⟨ha⟩ ⟨hl x fO⟩).ok fun q hq=>hl q (ir _ hq);rwa [show m+M+1+(M+1)*l.length=m+(M+1)*(l.length+1) by rw[bB];omega]at this
 have:=key l 0 4 HQ.zero.ok h;rwa [ic]at this
theorem ns {M:Nat}{f:ST->Rat}{l:List ST}(h:∀t∈l,hq (f t) M)(h6:l.length<=6)(i:Nat):HQ (ap f (l.take i)) (6*M+10):=by
 have:=Gq (M:=M) (l:=l.take i) fun t ht=>h t (gp ht);refine HQ.mono (h:=⟨this⟩) ?_;have h1:(l.take i).length<=6:=by rw[bI];omega
 have:=cW (M+1) h1;omega
def DT (v x z a f c l:RR):List PV:=eR v++zN++eR x++eR z++eR a++eR f++eR c++eR l++zN
def Iq (x:HYQ):List PV:=eR (ofQ x.vol)++eR (ofQ x.disp)++eR (ofQ x.x)++eR (ofQ x.z)++eR (ofQ x.area)++eR (ofQ x.flo)++eR (ofQ x.cross)++eR (ofQ x.long)++eR (ofQ x.mtc)
theorem hyd_cases (st:List ST)(d:Nat)(z u:Rat):(ap (ci z u) st=0/\Iq (vG st d z u)=eR (ofQ (ap (bL z u) st))++eR (ofQ (ap (bL z u) st*((d:Rat)/1000000000)))++eR (ofQ (ap (qY z u) st/ap (bL z u) st))++eR (ofQ (ap (lz z u) st/ap (bL z u) st))++eR (ofQ (ap (ci z u) st))++eR (ofQ 0)++eR (ofQ (ap (fw z u) st))++eR (ofQ 0)++eR (ofQ (ap (lz z u) st/ap (bL z u) st+ap (fw z u) st/ap (bL z u) st))) \/
  (ap (ci z u) st≠0/\∃f l:Rat,f=ap (iK z u) st/ap (ci z u) st/\l=ap (kZ z u) st-ap (ci z u) st*f*f/\Iq (vG st d z u)=eR (ofQ (ap (bL z u) st))++eR (ofQ (ap (bL z u) st*((d:Rat)/1000000000)))++eR (ofQ (ap (qY z u) st/ap (bL z u) st))++eR (ofQ (ap (lz z u) st/ap (bL z u) st))++eR (ofQ (ap (ci z u) st))++eR (ofQ f)++eR (ofQ (ap (fw z u) st))++eR (ofQ l)++eR (ofQ (ap (lz z u) st/ap (bL z u) st+ap (fw z u) st/ap (bL z u) st))):=by
 by_cases hA:ap (ci z u) st=0
 .refine Or.inl ⟨hA,?_⟩;have:vG st d z u=⟨ap (bL z u) st,ap (bL z u) st*((d:Rat)/1000000000),ap (qY z u) st/ap (bL z u) st,ap (lz z u) st/ap (bL z u) st,ap (ci z u) st,if ap (ci z u) st=0 then 0 else ap (iK z u) st/ap (ci z u) st,ap (fw z u) st,if ap (ci z u) st=0 then 0 else ap (kZ z u) st-ap (ci z u) st*(if ap (ci z u) st=0 then 0 else ap (iK z u) st/ap (ci z u) st)*(if ap (ci z u) st=0 then 0 else ap (iK z u) st/ap (ci z u) st),ap (lz z u) st/ap (bL z u) st+ap (fw z u) st/ap (bL z u) st⟩:=O;rw[this,if_pos hA,if_pos hA];rfl
 .refine Or.inr ⟨hA,_,_,O,O,?_⟩;have:vG st d z u=⟨ap (bL z u) st,ap (bL z u) st*((d:Rat)/1000000000),ap (qY z u) st/ap (bL z u) st,ap (lz z u) st/ap (bL z u) st,ap (ci z u) st,if ap (ci z u) st=0 then 0 else ap (iK z u) st/ap (ci z u) st,ap (fw z u) st,if ap (ci z u) st=0 then 0 else ap (kZ z u) st-ap (ci z u) st*(if ap (ci z u) st=0 then 0 else ap (iK z u) st/ap (ci z u) st)*(if ap (ci z u) st=0 then 0 else ap (iK z u) st/ap (ci z u) st),ap (lz z u) st/ap (bL z u) st+ap (fw z u) st/ap (bL z u) st⟩:=O;rw[this,if_neg hA,if_neg hA];rfl
theorem Ba (p:Rat)(n:Nat)(hp:hq p n)(hn:n<=2999000)(d:Nat)(h1:1<=d)(h2:d<=1000000000):bb 104 [.agg (eR (ofQ p)),I (d:Nat)] (.agg (eR (ofQ (p*((d:Rat)/1000000000))))):=by
 have z1:Zb (d:Int):=aL J J;have z2:Zb 1000000000:=aL Y Y;have w1:=ct (d:Int) ⟨J,J⟩;have w2:=ct 1000000000 ⟨Y,Y⟩;have c1:=n_ p ((d:Int):Rat) (n+4) (HQ.mono (h:=⟨hp⟩) J).ok ((HQ.int (z:=(d:Int))).mono J).ok J;have c2:=lr (ofQ (p*((d:Int):Rat))) (ofQ ((1000000000:Int):Rat)) (hx:=Vq.ofQ (h:=@HQ.mul _ _ n 4 ⟨hp⟩ HQ.int)) (hy:=Vq.ofQ (h:=HQ.int)) J Y aN;rw[show p*((d:Int):Rat)/((1000000000:Int):Rat)=p*((d:Rat)/1000000000) by rw[show((d:Int):Rat)=(d:Rat) from O,show((1000000000:Int):Rat)=1000000000 from O];grind]at c2;generalize ofQ (p*((d:Rat)/1000000000))=X3,ofQ (p*((d:Int):Rat))=X2,ofQ ((d:Int):Rat)=X1,ofQ ((1000000000:Int):Rat)=X0,ofQ p=X at *
 refine ay Proofs.Tryz.func104 ?_;refine dg 3 [5,6,7] ?_;refine G w1 ?_;refine H ?_;refine bX O O (eu O O O O O O O O O O ak O) ?_;refine G c1 ?_;refine G w2 ?_;refine G c2 ?_;exact cy
theorem Ig {t:ST}(ok:StOk t)(h8:t.L.length<=8){z s:Rat}{N:Nat}(hy:hq (cg z s t) N):HQ (wQ t) 4/\HQ (xQ t) 4/\HQ (li t (cg z s t):Rat) 4/\HQ (uK t (cg z s t)) (7*N+102)/\HQ (FG t (cg z s t)) (14*N+291)/\HQ (ci z s t) 12:=by
 have hw:=ok.w;have hx:=ok.x;have ha:=GZ ok (cg z s t);have zw:Zb t.w:=aL J J;have zx:Zb t.x:=aL J J;have za:Zb (li t (cg z s t)):=aL J J;have z2:Zb 2:=aL Y Y;have hH:=ok.h;have hk:t.H0.length<=7:=J;have k1:=cm (N+14) hk;have k2:=cm (2*N+41) hk;refine⟨HQ.int,HQ.int,HQ.int,(Cb ok hy t.H0.length).mono J,(Di ok hy t.H0.length).mono J,?_⟩;rw[ci,show(2:Rat)=((2:Int):Rat) from O];exact(@HQ.mul _ _ _ 4 (@HQ.mul _ _ 4 4 HQ.int HQ.int) HQ.int)
set_option maxHeartbeats 16000000 in
theorem hydro_ret (s:SHP)(hst:∀t∈s.st,StOk t)(h6:s.st.length<=6)(h8:∀t∈s.st,t.L.length<=8)(a:AR){z u:Rat}{n m:Nat}[ha:Va a z u n m](hnm:n+m<=49000)(d:Nat)(hd1:1<=d)(hd2:d<=1000000000)(hv0:ap (bL z u) s.st≠0) :
  bb 101 [.agg (jT s),.agg (eA a),I (d:Nat)] (.tup [.agg (Iq (vG s.st d z u)),.bool true]):=by
 have w0:=ct 0 ⟨Y,Y⟩;rw[show((0:Int):Rat)=0 from O]at w0;have w2:=ct 2 ⟨Y,Y⟩;rw[show((2:Int):Rat)=2 from O]at w2;have w3:=ct 3 ⟨Y,Y⟩;rw[show((3:Int):Rat)=3 from O]at w3;have z2:Zb 2:=aL Y Y;have z3:Zb 3:=aL Y Y;have q2:HQ (2:Rat) 4:=by rw[show(2:Rat)=((2:Int):Rat) from O];exact HQ.int
 have q3:HQ (3:Rat) 4:=by rw[show(3:Rat)=((3:Int):Rat) from O];exact HQ.int
 have hms:(s.st.map eT).length=s.st.length:=aj;have hyq:∀t∈s.st,hq (cg z u t) (n+m+12):=fun t ht=>by
  have hx:=(hst t ht).x;have zx:Zb t.x:=aL J J;exact(HQ.mono (h:=@HQ.add _ _ (n+1) (m+1+4) ha.z.hq (@HQ.mul _ _ (m+1) 4 ha.t.hq HQ.int)) J).ok
 have hsum:=fun i=>Gr hst h8 h6 ha.z.hq.ok ha.t.hq.ok i;generalize hNN:n+m+12=N at *
 have hN:N<=49012:=J;have hsz:=fun t ht=>Ig (hst t ht) (h8 t ht) (hyq t ht);have b4:∀t∈s.st,hq (ci z u t) 12:=fun t ht=>(hsz t ht).2.2.2.2.2.ok;have b5:∀t∈s.st,hq (iK z u t) 16:=fun t ht=>by
  obtain⟨c1,c2,c3,c4,c5,c6⟩:=hsz t ht;exact(@HQ.mul _ _ 12 4 c6 c2).ok
 have b6:∀t∈s.st,hq (fw z u t) 24:=fun t ht=>by
  obtain⟨c1,c2,c3,c4,c5,c6⟩:=hsz t ht;exact(@HQ.div _ _ 20 4 (@HQ.mul _ _ 16 4 (@HQ.mul _ _ 12 4 (@HQ.mul _ _ 8 4 (@HQ.mul _ _ 4 4 q2 c3) c3) c3) c1) q3).ok
 have b7:∀t∈s.st,hq (kZ z u t) 20:=fun t ht=>by
  obtain⟨c1,c2,c3,c4,c5,c6⟩:=hsz t ht;exact(@HQ.mul _ _ 16 4 (@HQ.mul _ _ 12 4 c6 c2) c2).ok
 have s1:∀i,HQ (ap (bL z u) (s.st.take i)) (N+16):=fun i=>(hsum i).1.mono J;have s2:∀i,HQ (ap (qY z u) (s.st.take i)) (N+16):=fun i=>(hsum i).2.1.mono J;have s3:∀i,HQ (ap (lz z u) (s.st.take i)) (4*N+13):=fun i=>(hsum i).2.2.mono J;have s4:=fun i=>ns b4 h6 i;have s5:=fun i=>ns b5 h6 i;have s6:=fun i=>ns b6 h6 i;have s7:=fun i=>ns b7 h6 i;clear b4 b5 b6 b7 hsum;obtain⟨nm,len,st,light,it⟩:=s;obtain⟨az,au⟩:=a;simp only at *
 refine ay Proofs.Tryz.func101 ?_;refine G w0 ?_;refine H ?_;rw[hms];refine cA [(2,I (d:Nat)),(3,.ptr 3 1 0 0),(4,.ptr 4 1 0 0),(6,.ptr 6 1 0 0),(9,.ptr 9 1 0 0),(28,.sl (st.map eT)),(29,I st.length),(30,I ((0:Nat):Int))] [(3,1,⟨27,9,[jT ⟨nm,len,st,light,it⟩],2⟩),(4,1,⟨43,8,[eA ⟨az,au⟩],2⟩),(6,1,⟨108,36,[zN++zN++zN++zN++zN++zN++zN++zN++zN],2⟩),(9,1,⟨108,36,[DT (ofQ 0) (ofQ 0) (ofQ 0) (ofQ 0) (ofQ 0) (ofQ 0) (ofQ 0)],2⟩)] ak ?_;intro s0;refine ao (fun i:Nat=>i<=st.length) (fun i=>[(2,I (d:Nat)),(3,.ptr 3 1 0 0),(4,.ptr 4 1 0 0),(6,.ptr 6 1 0 0),(9,.ptr 9 1 0 0),(28,.sl (st.map eT)),(29,I st.length),(30,I (i:Nat))]) (fun i=>[(3,1,⟨27,9,[jT ⟨nm,len,st,light,it⟩],2⟩),(4,1,⟨43,8,[eA ⟨az,au⟩],2⟩),(6,1,⟨108,36,[zN++zN++zN++zN++zN++zN++zN++zN++zN],2⟩),(9,1,⟨108,36,[DT (ofQ (ap (bL z u) (st.take i))) (ofQ (ap (qY z u) (st.take i))) (ofQ (ap (lz z u) (st.take i))) (ofQ (ap (ci z u) (st.take i))) (ofQ (ap (iK z u) (st.take i))) (ofQ (ap (fw z u) (st.take i))) (ofQ (ap (kZ z u) (st.take i)))],2⟩)]) (fun i=>st.length-i) 0 (aF _) ak ?_;intro i s1' hi;refine D ?_ ?_<;>intro h
 .have hlt:i<st.length:=cP h;clear h;obtain⟨t,hx⟩:=aK hlt;have htm:=bG hx;have ok:=hst t htm;have hyt:=hyq t htm;obtain⟨c1,c2,c3,c4,c5,c6⟩:=hsz t htm;have i64x:i64 t.x:=by have:=ok.x;exact⟨J,J⟩
  have i64w:i64 t.w:=by have:=ok.w;exact⟨J,J⟩
  have i64h:i64 (li t (cg z u t)):=by have:=GZ ok (cg z u t);exact⟨J,J⟩
  have e1:=CZ ⟨az,au⟩ t.x i64x (ha:=ha) J J;rw[show z+u*(t.x:Rat)=cg z u t from O]at e1;have e2:=ct t.w i64w;rw[show((t.w:Int):Rat)=wQ t from O]at e2;have e3:=ct t.x i64x;rw[show((t.x:Int):Rat)=xQ t from O]at e3;have e4:=ta t ok (h8 t htm) hyt J;have e5:=uW t ok hyt J;have e6:=ct (li t (cg z u t)) i64h;have m1:=n_ (wQ t) (uK t (cg z u t)) (7*N+102) (c1.mono J).ok c4.ok J;have m2:=uG (wQ t) (uK t (cg z u t)) (xQ t) (7*N+102) (c1.mono J).ok c4.ok (c2.mono J).ok J;have m3:=n_ (wQ t) (FG t (cg z u t)) (14*N+291) (c1.mono J).ok c5.ok J;have m4:=uG 2 (li t (cg z u t):Rat) (wQ t) 4 q2.ok c3.ok c1.ok Y;have m5:=n_ (ci z u t) (xQ t) 12 c6.ok (c2.mono Y).ok Y;have m6:=Ij 2 (li t (cg z u t):Rat) (li t (cg z u t):Rat) (li t (cg z u t):Rat) (wQ t) 4 q2.ok c3.ok c3.ok c3.ok c1.ok Y;have m7:=lr (ofQ (2*(li t (cg z u t):Rat)*(li t (cg z u t):Rat)*(li t (cg z u t):Rat)*wQ t)) (ofQ 3) (hx:=Vq.ofQ (h:=@HQ.mul _ _ 16 4 (@HQ.mul _ _ 12 4 (@HQ.mul _ _ 8 4 (@HQ.mul _ _ 4 4 q2 c3) c3) c3) c1)) (hy:=Vq.ofQ (h:=q3)) Y Y Y;have m8:=uG (ci z u t) (xQ t) (xQ t) 12 c6.ok (c2.mono Y).ok (c2.mono Y).ok Y;have d1:=dh (ofQ (ap (bL z u) (st.take i))) (ofQ (bL z u t)) (hx:=Vq.ofQ (h:=s1 i)) (hy:=Vq.ofQ (h:=@HQ.mul _ _ 4 _ c1 c4)) J J;have d2:=dh (ofQ (ap (qY z u) (st.take i))) (ofQ (qY z u t)) (hx:=Vq.ofQ (h:=s2 i)) (hy:=Vq.ofQ (h:=@HQ.mul _ _ _ 4 (@HQ.mul _ _ 4 _ c1 c4) c2)) J J;have d3:=dh (ofQ (ap (lz z u) (st.take i))) (ofQ (lz z u t)) (hx:=Vq.ofQ (h:=s3 i)) (hy:=Vq.ofQ (h:=@HQ.mul _ _ 4 _ c1 c5)) J J;have d4:=dh (ofQ (ap (ci z u) (st.take i))) (ofQ (ci z u t)) (hx:=Vq.ofQ (h:=s4 i)) (hy:=Vq.ofQ (h:=c6)) J J;have d5:=dh (ofQ (ap (iK z u) (st.take i))) (ofQ (iK z u t)) (hx:=Vq.ofQ (h:=s5 i)) (hy:=Vq.ofQ (h:=@HQ.mul _ _ 12 4 c6 c2)) J J;have d6:=dh (ofQ (ap (fw z u) (st.take i))) (ofQ (fw z u t)) (hx:=Vq.ofQ (h:=s6 i)) (hy:=Vq.ofQ (h:=@HQ.div _ _ 20 4 (@HQ.mul _ _ 16 4 (@HQ.mul _ _ 12 4 (@HQ.mul _ _ 8 4 (@HQ.mul _ _ 4 4 q2 c3) c3) c3) c1) q3)) J J;have d7:=dh (ofQ (ap (kZ z u) (st.take i))) (ofQ (kZ z u t)) (hx:=Vq.ofQ (h:=s7 i)) (hy:=Vq.ofQ (h:=@HQ.mul _ _ 16 4 (@HQ.mul _ _ 12 4 c6 c2) c2)) J J;rw[<-f0 (bL z u) hx]at d1;rw[<-f0 (qY z u) hx]at d2;rw[<-f0 (lz z u) hx]at d3;rw[<-f0 (ci z u) hx]at d4;rw[<-f0 (iK z u) hx]at d5;rw[<-f0 (fw z u) hx]at d6;rw[<-f0 (kZ z u) hx]at d7;rw[show wQ t*uK t (cg z u t)=bL z u t from O]at m1;rw[show wQ t*uK t (cg z u t)*xQ t=qY z u t from O]at m2;rw[show wQ t*FG t (cg z u t)=lz z u t from O]at m3;rw[show 2*(li t (cg z u t):Rat)*wQ t=ci z u t from O]at m4;rw[show ci z u t*xQ t=iK z u t from O]at m5;rw[show 2*(li t (cg z u t):Rat)*(li t (cg z u t):Rat)*(li t (cg z u t):Rat)*wQ t/3=fw z u t from O]at m7;rw[show ci z u t*xQ t*xQ t=kZ z u t from O]at m8;clear s1 s2 s3 s4 s5 s6 s7 hsz c1 c2 c3 c4 c5 c6;have hw:=im i;generalize hN0:ofQ (ap (bL z u) (st.take (i+1)))=N0 at *
  generalize ofQ (ap (bL z u) (st.take i))=O0,ofQ (bL z u t)=F0 at *
  generalize hN1:ofQ (ap (qY z u) (st.take (i+1)))=N1 at *
  generalize ofQ (ap (qY z u) (st.take i))=O1,ofQ (qY z u t)=F1 at *
  generalize hN2:ofQ (ap (lz z u) (st.take (i+1)))=N2 at *
  generalize ofQ (ap (lz z u) (st.take i))=O2,ofQ (lz z u t)=F2 at *
  generalize hN3:ofQ (ap (ci z u) (st.take (i+1)))=N3 at *
  generalize ofQ (ap (ci z u) (st.take i))=O3,ofQ (ci z u t)=F3 at *
  generalize hN4:ofQ (ap (iK z u) (st.take (i+1)))=N4 at *
  generalize ofQ (ap (iK z u) (st.take i))=O4,ofQ (iK z u t)=F4 at *
  generalize hN5:ofQ (ap (fw z u) (st.take (i+1)))=N5 at *
  generalize ofQ (ap (fw z u) (st.take i))=O5,ofQ (fw z u t)=F5 at *
  generalize hN6:ofQ (ap (kZ z u) (st.take (i+1)))=N6 at *
  generalize ofQ (ap (kZ z u) (st.take i))=O6,ofQ (kZ z u t)=F6,ofQ (2*(li t (cg z u t):Rat)*(li t (cg z u t):Rat)*(li t (cg z u t):Rat)*wQ t)=C0,ofQ (uK t (cg z u t))=A0,ofQ (FG t (cg z u t))=M0,ofQ (li t (cg z u t):Rat)=H0 at *
  generalize li t (cg z u t)=hh,ofQ (cg z u t)=Y0,ofQ (wQ t)=W0,ofQ (xQ t)=X0,ofQ 2=T2,ofQ 3=T3 at *
  refine aZ hx ?_;refine dN 6 ?_;refine qG [(10,12),(11,13),(12,14),(13,12),(14,13),(15,14)] aN aN ?_;refine G e1 ?_;refine G e2 ?_;refine G e3 ?_;refine H ?_;refine Iu O O O O O ?_;refine Iu O O O O O ?_;refine Iu O O O O O ?_;refine Iv 2 O O O O O O (fun _=>rfl) ak O O O O ?_;refine Iv 2 O O O O O O (fun _=>rfl) ak O O O O ?_;refine Iv 2 O O O O O O (fun _=>rfl) ak O O O O ?_;refine G e4 ?_;refine H ?_;refine cd [] [9] 8 [8,9] aN aN ?_;refine H ?_;refine bX O O (eu O O O O O O O O O O ak O) ?_;refine G m1 ?_;refine G d1 ?_;refine H ?_;refine cd [] [9] 9 [9,10] aN aN ?_;refine H ?_;refine bX O O (eu O O O O O O O O O O ak O) ?_;refine G m2 ?_;refine G d2 ?_;refine H ?_;refine cd [] [9] 8 [8,9] aN aN ?_;refine H ?_;refine bX O O (eu O O O O O O O O O O ak O) ?_;refine G m3 ?_;refine G d3 ?_;refine dN 11 ?_;refine cA [(2,I (d:Nat)),(3,.ptr 3 1 0 0),(4,.ptr 4 1 0 0),(6,.ptr 6 1 0 0),(9,.ptr 9 1 0 0),(28,.sl (st.map eT)),(29,I st.length),(30,I (i:Nat)),(11,.ptr 11 ((s1'.own 11).1+1) 0 0),(12,.ptr 12 ((s1'.own 12).1+1) 0 0),(13,.ptr 13 ((s1'.own 13).1+1) 0 0),(14,.ptr 14 ((s1'.own 14).1+1) 0 0)] [(3,1,⟨27,9,[jT ⟨nm,len,st,light,it⟩],2⟩),(4,1,⟨43,8,[eA ⟨az,au⟩],2⟩),(6,1,⟨108,36,[zN++zN++zN++zN++zN++zN++zN++zN++zN],2⟩),(9,1,⟨108,36,[DT N0 N1 N2 O3 O4 O5 O6],2⟩),(11,((s1'.own 11).1+1),⟨115,4,[eT t],2⟩),(12,((s1'.own 12).1+1),⟨41,4,[eR Y0],2⟩),(13,((s1'.own 13).1+1),⟨41,4,[eR W0],2⟩),(14,((s1'.own 14).1+1),⟨41,4,[eR X0],2⟩)] ak ?_;generalize (s1'.own 11).1+1=g11;generalize (s1'.own 12).1+1=g12;generalize (s1'.own 13).1+1=g13;generalize (s1'.own 14).1+1=g14;intro s2';refine aB e5 ?_;refine G e6 ?_;refine dN 12 ?_;refine ax (jW 17) ?_;refine cp [(5,17),(6,17)] aN aN ?_;refine G w2 ?_;refine H ?_;refine bX O O (eu O O O O O O O O O O ak O) ?_;refine G m4 ?_;refine G d4 ?_;refine dN 14 ?_;refine cA [(2,I (d:Nat)),(3,.ptr 3 1 0 0),(4,.ptr 4 1 0 0),(6,.ptr 6 1 0 0),(9,.ptr 9 1 0 0),(28,.sl (st.map eT)),(29,I st.length),(30,I (i:Nat)),(11,.ptr 11 g11 0 0),(12,.ptr 12 g12 0 0),(13,.ptr 13 g13 0 0),(14,.ptr 14 g14 0 0),(16,.ptr 16 ((s2'.own 16).1+1) 0 0),(17,.ptr 17 ((s2'.own 17).1+3) 0 0)] [(3,1,⟨27,9,[jT ⟨nm,len,st,light,it⟩],2⟩),(4,1,⟨43,8,[eA ⟨az,au⟩],2⟩),(6,1,⟨108,36,[zN++zN++zN++zN++zN++zN++zN++zN++zN],2⟩),(9,1,⟨108,36,[DT N0 N1 N2 N3 O4 O5 O6],2⟩),(11,g11,⟨115,4,[eT t],2⟩),(12,g12,⟨41,4,[eR Y0],2⟩),(13,g13,⟨41,4,[eR W0],2⟩),(14,g14,⟨41,4,[eR X0],2⟩),(16,((s2'.own 16).1+1),⟨41,4,[eR H0],2⟩),(17,((s2'.own 17).1+3),⟨41,4,[eR F3],2⟩)] ak ?_;generalize (s2'.own 16).1+1=g16;generalize (s2'.own 17).1+3=g17;intro s3';refine cd [] [9] 7 [7,8] aN aN ?_;refine H ?_;refine bX O O (eu O O O O O O O O O O ak O) ?_;refine G m5 ?_;refine G d5 ?_;refine H ?_;refine cd [] [9] 12 [12,13] aN aN ?_;refine G w2 ?_;refine H ?_;refine bX O O (eu O O O O O O O O O O ak O) ?_;refine G m6 ?_;refine G w3 ?_;refine G m7 ?_;refine G d6 ?_;refine dN 16 ?_;refine cA [(2,I (d:Nat)),(3,.ptr 3 1 0 0),(4,.ptr 4 1 0 0),(6,.ptr 6 1 0 0),(9,.ptr 9 1 0 0),(28,.sl (st.map eT)),(29,I st.length),(30,I (i:Nat)),(11,.ptr 11 g11 0 0),(12,.ptr 12 g12 0 0),(13,.ptr 13 g13 0 0),(14,.ptr 14 g14 0 0),(16,.ptr 16 g16 0 0),(17,.ptr 17 g17 0 0)] [(3,1,⟨27,9,[jT ⟨nm,len,st,light,it⟩],2⟩),(4,1,⟨43,8,[eA ⟨az,au⟩],2⟩),(6,1,⟨108,36,[zN++zN++zN++zN++zN++zN++zN++zN++zN],2⟩),(9,1,⟨108,36,[DT N0 N1 N2 N3 N4 N5 O6],2⟩),(11,g11,⟨115,4,[eT t],2⟩),(12,g12,⟨41,4,[eR Y0],2⟩),(13,g13,⟨41,4,[eR W0],2⟩),(14,g14,⟨41,4,[eR X0],2⟩),(16,g16,⟨41,4,[eR H0],2⟩),(17,g17,⟨41,4,[eR F3],2⟩)] ak ?_;intro s4';refine cd [] [9] 8 [8,9] aN aN ?_;refine H ?_;refine bX O O (eu O O O O O O O O O O ak O) ?_;refine G m8 ?_;refine G d7 ?_;refine H ?_;exact⟨i+1,hlt,J,O,O,O,O,O,O,O,congrArg I hw,O,O,O,by rw[hN0,hN1,hN2,hN3,hN4,hN5,hN6];rfl,bP⟩
 have hie:i=st.length:=cG h;clear h;subst hie;rw[bM];have k1:=s1 st.length;have k2:=s2 st.length;have k3:=s3 st.length;have k4:=s4 st.length;have k5:=s5 st.length;have k6:=s6 st.length;have k7:=s7 st.length;rw[bM]at k1 k2 k3 k4 k5 k6 k7;clear s1 s2 s3 s4 s5 s6 s7 hsz hyq;have g0:=y3 (ofQ (ap (bL z u) st)) (hx:=Vq.ofQ (h:=k1)) J;rw[decide_eq_false hv0]at g0;have g1:=Ba (ap (bL z u) st) (N+16) k1.ok J d hd1 hd2;have g2:=lr (ofQ (ap (qY z u) st)) (ofQ (ap (bL z u) st)) (hx:=Vq.ofQ (h:=k2)) (hy:=Vq.ofQ (h:=k1)) J J hv0;have g3:=lr (ofQ (ap (lz z u) st)) (ofQ (ap (bL z u) st)) (hx:=Vq.ofQ (h:=k3)) (hy:=Vq.ofQ (h:=k1)) J J hv0;have g4:=y3 (ofQ (ap (ci z u) st)) (hx:=Vq.ofQ (h:=k4)) Y;have g5:=lr (ofQ (ap (fw z u) st)) (ofQ (ap (bL z u) st)) (hx:=Vq.ofQ (h:=k6)) (hy:=Vq.ofQ (h:=k1)) J J hv0;have g6:=dh (ofQ (ap (lz z u) st/ap (bL z u) st)) (ofQ (ap (fw z u) st/ap (bL z u) st)) (hx:=Vq.ofQ (h:=@HQ.div _ _ _ _ k3 k1)) (hy:=Vq.ofQ (h:=@HQ.div _ _ _ _ k6 k1)) J J;have hcases:(ap (ci z u) st=0/\Iq (vG st d z u)=eR (ofQ (ap (bL z u) st))++eR (ofQ (ap (bL z u) st*((d:Rat)/1000000000)))++eR (ofQ (ap (qY z u) st/ap (bL z u) st))++eR (ofQ (ap (lz z u) st/ap (bL z u) st))++eR (ofQ (ap (ci z u) st))++eR (ofQ 0)++eR (ofQ (ap (fw z u) st))++eR (ofQ 0)++eR (ofQ (ap (lz z u) st/ap (bL z u) st+ap (fw z u) st/ap (bL z u) st))) \/
  (ap (ci z u) st≠0/\∃f l:Rat,f=ap (iK z u) st/ap (ci z u) st/\l=ap (kZ z u) st-ap (ci z u) st*f*f/\Iq (vG st d z u)=eR (ofQ (ap (bL z u) st))++eR (ofQ (ap (bL z u) st*((d:Rat)/1000000000)))++eR (ofQ (ap (qY z u) st/ap (bL z u) st))++eR (ofQ (ap (lz z u) st/ap (bL z u) st))++eR (ofQ (ap (ci z u) st))++eR (ofQ f)++eR (ofQ (ap (fw z u) st))++eR (ofQ l)++eR (ofQ (ap (lz z u) st/ap (bL z u) st+ap (fw z u) st/ap (bL z u) st))):=hyd_cases st d z u
 generalize Iq (vG st d z u)=RES at *
 rcases hcases with⟨hA,hres⟩|⟨hA,f,l,hf,hl,hres⟩
 .subst hres;rw[decide_eq_true hA]at g4;clear k1 k2 k3 k4 k5 k6 k7 hA hv0;generalize ofQ (ap (lz z u) st/ap (bL z u) st+ap (fw z u) st/ap (bL z u) st)=G0,ofQ (ap (bL z u) st*((d:Rat)/1000000000))=G1,ofQ (ap (qY z u) st/ap (bL z u) st)=G2,ofQ (ap (lz z u) st/ap (bL z u) st)=G3,ofQ (ap (fw z u) st/ap (bL z u) st)=G4,ofQ (ap (bL z u) st)=G5,ofQ (ap (qY z u) st)=G6,ofQ (ap (lz z u) st)=G7,ofQ (ap (ci z u) st)=G8,ofQ (ap (iK z u) st)=G9,ofQ (ap (fw z u) st)=G10,ofQ (ap (kZ z u) st)=G11,ofQ 0=G12 at *
  refine aB g0 ?_;refine G g1 ?_;refine H ?_;refine cd [] [9] 11 [11,12,13] aN aN ?_;refine G g2 ?_;refine G g3 ?_;refine dN 22 ?_;refine cA [(6,.ptr 6 1 0 0),(9,.ptr 9 1 0 0)] [(6,1,⟨108,36,[zN++zN++zN++zN++zN++zN++zN++zN++zN],2⟩),(9,1,⟨108,36,[eR G5++eR G1++eR G2++eR G3++eR G8++eR G9++eR G10++eR G11++zN],2⟩)] ak ?_;intro s5;refine aB g4 ?_;refine G w0 ?_;refine G w0 ?_;refine dN 26 ?_;refine cA [(6,.ptr 6 1 0 0),(9,.ptr 9 1 0 0)] [(6,1,⟨108,36,[zN++zN++zN++zN++zN++zN++zN++zN++zN],2⟩),(9,1,⟨108,36,[eR G5++eR G1++eR G2++eR G3++eR G8++eR G12++eR G10++eR G12++zN],2⟩)] ak ?_;intro s6;refine cd [] [9] 8 [8,9] aN aN ?_;refine G g5 ?_;refine G g6 ?_;exact cy
 .subst hres;rw[decide_eq_false hA]at g4;have g7:=lr (ofQ (ap (iK z u) st)) (ofQ (ap (ci z u) st)) (hx:=Vq.ofQ (h:=k5)) (hy:=Vq.ofQ (h:=k4)) Y Y hA;rw[<-hf]at g7;have hfq:HQ f 220:=by rw[hf];exact(@HQ.div _ _ _ _ k5 k4).mono Y
  have g8:=uG (ap (ci z u) st) f f 220 (k4.mono Y).ok hfq.ok hfq.ok Y;have g9:=mc (ofQ (ap (kZ z u) st)) (ofQ (ap (ci z u) st*f*f)) (hx:=Vq.ofQ (h:=k7)) (hy:=Vq.ofQ (h:=@HQ.mul _ _ _ _ (@HQ.mul _ _ _ _ k4 hfq) hfq)) Y Y;rw[<-hl]at g9;clear k1 k2 k3 k4 k5 k6 k7 hA hv0 hfq;generalize ofQ (ap (lz z u) st/ap (bL z u) st+ap (fw z u) st/ap (bL z u) st)=G0,ofQ (ap (bL z u) st*((d:Rat)/1000000000))=G1,ofQ (ap (qY z u) st/ap (bL z u) st)=G2,ofQ (ap (lz z u) st/ap (bL z u) st)=G3,ofQ (ap (fw z u) st/ap (bL z u) st)=G4,ofQ (ap (ci z u) st*f*f)=G5,ofQ f=G6,ofQ l=G7,ofQ (ap (bL z u) st)=G8,ofQ (ap (qY z u) st)=G9,ofQ (ap (lz z u) st)=G10,ofQ (ap (ci z u) st)=G11,ofQ (ap (iK z u) st)=G12,ofQ (ap (fw z u) st)=G13,ofQ (ap (kZ z u) st)=G14,ofQ 0=G15 at *
  refine aB g0 ?_;refine G g1 ?_;refine H ?_;refine cd [] [9] 11 [11,12,13] aN aN ?_;refine G g2 ?_;refine G g3 ?_;refine dN 22 ?_;refine cA [(6,.ptr 6 1 0 0),(9,.ptr 9 1 0 0)] [(6,1,⟨108,36,[zN++zN++zN++zN++zN++zN++zN++zN++zN],2⟩),(9,1,⟨108,36,[eR G8++eR G1++eR G2++eR G3++eR G11++eR G12++eR G13++eR G14++zN],2⟩)] ak ?_;intro s5;refine aB g4 ?_;refine G g7 ?_;refine H ?_;refine cd [] [9] 11 [11,12] aN aN ?_;refine H ?_;refine bX O O (eu O O O O O O O O O O ak O) ?_;refine G g8 ?_;refine G g9 ?_;refine dN 26 ?_;refine cA [(6,.ptr 6 1 0 0),(9,.ptr 9 1 0 0)] [(6,1,⟨108,36,[zN++zN++zN++zN++zN++zN++zN++zN++zN],2⟩),(9,1,⟨108,36,[eR G8++eR G1++eR G2++eR G3++eR G11++eR G6++eR G13++eR G7++zN],2⟩)] ak ?_;intro s6;refine cd [] [9] 8 [8,9] aN aN ?_;refine G g5 ?_;refine G g6 ?_;exact cy
end Go.Pv
