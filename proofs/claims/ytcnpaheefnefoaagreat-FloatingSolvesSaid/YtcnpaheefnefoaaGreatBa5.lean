/- Texts of one hand, gathered: FcX, FcY, FcZ, FdA, FdB, FdC, FdD, FdE, FdF, FdG, FdH, FdI, FdK, FdL, FmK, FdN, FmL, FdT, FdO, FdP, FdQ, FdR, FdS, FdU, FdM, FsA, FsB, FsC, FsD, PvXw, FsE. -/
import Derived.Test.YtcnpaheefnefoaaGreatBa4
set_option linter.unusedSectionVars false
set_option linter.unusedSimpArgs false
set_option linter.unusedVariables false
set_option linter.unnecessarySimpa false
set_option maxHeartbeats 2000000
namespace Go.Pv
attribute [local irreducible] PWP POps PQuiet PSem ax ao aj ai
open Go.Proofs
theorem eG {b:BR} (hb:b.Ok):(bd b).Ok:=by
 refine⟨fun i hi=>oe (bu hb.chkL _ (aB hi)),?_⟩
 have:=(jN hb.chk).1
 show(0:Rat)<(b.w:Rat)
 have h:(0:Int)<b.w:=by omega
 exact_mod_cast h
theorem Dh {c:CR} (hc:c.Lim) {p:Nat} (hp:p≤8):HQ (gc c.s c.m p) 300:=by
 rw[gc]
 refine(aK (m:=31) p fun k _=>?_).mono (by omega)
 have hb:=km hc k
 have hzb:Zb (c.S.getD k 0):=aE hb.1 hb.2
 exact @HQ.mul _ _ 27 4 (mX hc k) HQ.int
theorem wc {b:BR} (hb:b.Ok) (p:Nat→Nat) {i:Nat} (hi:i<b.l.length):HQ ((bd b).k p i) 13:=(lp _ (hb.lim.l.1 _ (aB hi)).k (p i)).hq
theorem AP {b:BR} (hb:b.Ok) {i:Nat} (hi:i<b.l.length):HQ ((bd b).X i) 4:=by
 have hx:=(hb.lim.l.1 _ (aB hi)).x
 have hx:Zb (b.l.getD i dS).x:=aE hx.1 hx.2
 exact HQ.int
theorem ue {b:BR} (hb:b.Ok) (p:Nat→Nat):HQ ((bd b).Kh p) 300:=(aK (m:=13) b.l.length fun i hi=>wc hb p hi).mono (by have:=hb.few.1;omega)
theorem qD {b:BR} (hb:b.Ok) (p:Nat→Nat):HQ ((bd b).Kc p) 300:=(aK (m:=17) b.l.length fun i hi=>@HQ.mul _ _ 13 4 (wc hb p hi) (AP hb hi)).mono (by have:=hb.few.1;omega)
theorem xV {b:BR} (hb:b.Ok) (p:Nat→Nat):HQ ((bd b).Kp p) 300:=(aK (m:=21) b.l.length fun i hi=>@HQ.mul _ _ 17 4 (@HQ.mul _ _ 13 4 (wc hb p hi) (AP hb hi)) (AP hb hi)).mono (by have:=hb.few.1;omega)
theorem y3 {b:BR} (hb:b.Ok) {p:Nat→Nat} (hp:∀i,i<b.l.length→p i≤(bd b).n i) {i:Nat} (hi:i<b.l.length):HQ ((bd b).k p i*(bd b).C i-(bd b).o p i) 327:=by
 have h8:=hb.few.2 _ (aB hi)
 have hpi:=hp i hi
 have hc:HQ ((bd b).C i) 13:=(hb.lim.l.1 _ (aB hi)).c.v.hq
 exact @HQ.sub _ _ 26 300 (@HQ.mul _ _ 13 13 (wc hb p hi) hc) (Dh (hb.lim.l.1 _ (aB hi)).k (Nat.le_trans hpi h8))
theorem xT {b:BR} (hb:b.Ok) {p:Nat→Nat} (hp:∀i,i<b.l.length→p i≤(bd b).n i):HQ ((bd b).Fo p) 4100:=(aK (m:=327) b.l.length fun i hi=>y3 hb hp hi).mono (by have:=hb.few.1;omega)
theorem Cm {b:BR} (hb:b.Ok) {p:Nat→Nat} (hp:∀i,i<b.l.length→p i≤(bd b).n i):HQ ((bd b).Go p) 4100:=(aK (m:=331) b.l.length fun i hi=>@HQ.mul _ _ 327 4 (y3 hb hp hi) (AP hb hi)).mono (by have:=hb.few.1;omega)
theorem uo {z X D:Rat} (hd:D≠0):z+(X-z*D)/D=X/D:=by grind
theorem Bb {h c p z t F G w M:Rat} (hd:h*p-c*c≠0):z+(p*(w-(h*z+c*t+F))-c*(M-(c*z+p*t+G)))/(h*p-c*c)=(p*(w-F)-c*(M-G))/(h*p-c*c):=by
 rw[show p*(w-(h*z+c*t+F))-c*(M-(c*z+p*t+G))=(p*(w-F)-c*(M-G))-z*(h*p-c*c) by grind,uo hd]
theorem Bc {h c p z t F G w M:Rat} (hd:h*p-c*c≠0):t+(h*(M-(c*z+p*t+G))-c*(w-(h*z+c*t+F)))/(h*p-c*c)=(h*(M-G)-c*(w-F))/(h*p-c*c):=by
 rw[show h*(M-(c*z+p*t+G))-c*(w-(h*z+c*t+F))=(h*(M-G)-c*(w-F))-t*(h*p-c*c) by grind,uo hd]
theorem uD {b:BR} (hb:b.Ok) {p:Nat→Nat} {z t:Rat} (hp:(bd b).Inc p z t) {d:Rat × Rat} (h:Bd.newt ((bd b).Kh p) ((bd b).Kc p) ((bd b).Kp p) ((bd b).w-(bd b).F z t) (-((bd b).e z t))=some d):HQ (z+d.1) 20000∧HQ (t+d.2) 20000:=by
 have hpn:∀i,i<b.l.length→p i≤(bd b).n i:=fun i hi=>(hp i hi).1
 have hw:Zb b.w:=aE hb.lim.w.1 hb.lim.w.2
 have e1:=Bd.F_at (eG hb) hp
 have e2:=Bd.G_at (eG hb) hp
 rw[Bd.newt]at h
 split at h
 ·cases h
 ·rename_i hd
  cases h
  have hf : -((bd b).e z t)=(bd b).w*(bd b).A-(bd b).G z t:=by rw[Bd.e];grind
  simp only
  rw[hf,e1,e2,Bb hd,Bc hd]
  have kh:=ue hb p
  have kc:=qD hb p
  have kp:=xV hb p
  have fo:=xT hb hpn
  have go:=Cm hb hpn
  have wq:HQ ((bd b).w) 4:=HQ.int
  have wa:HQ ((bd b).w*(bd b).A) 17:=sC hb
  have f1:=@HQ.sub _ _ 4 4100 wq fo
  have g1:=@HQ.sub _ _ 17 4100 wa go
  have dt:=@HQ.sub _ _ _ _ (@HQ.mul _ _ 300 300 kh kp) (@HQ.mul _ _ 300 300 kc kc)
  exact⟨(@HQ.div _ _ _ _ (@HQ.sub _ _ _ _ (@HQ.mul _ _ _ _ kp f1) (@HQ.mul _ _ _ _ kc g1)) dt).mono (by omega),(@HQ.div _ _ _ _ (@HQ.sub _ _ _ _ (@HQ.mul _ _ _ _ kh g1) (@HQ.mul _ _ _ _ kc f1)) dt).mono (by omega)⟩
def Cv (o:Option (Rat × Rat)):PV:=match o with
 |none => .tup [.agg (zN++zN),.bool false]
 |some x => .tup [.agg (eA ⟨ofQ x.1,ofQ x.2⟩),.bool true]
theorem kz {x:RR} {p:Rat} {n m:Nat} (h:Vq x p n) (hm:n≤m):Vq x p m:=⟨h.val,Nat.le_trans h.sz.1 hm,Nat.le_trans h.sz.2 hm⟩
theorem Cx {b:BR} (hb:b.Ok) (z t:Rat):(bd b).Inc ((bd b).pR z t) z t:=fun i hi=>(tt (n:=(bd b).n i) (S:=(bd b).S i) (y:=(bd b).y z t i)).c
theorem Cw {b:BR} (hb:b.Ok) (z t:Rat):(bd b).Inc ((bd b).pL z t) z t:=fun i hi=>(ng (n:=(bd b).n i) (S:=(bd b).S i) (y:=(bd b).y z t i)).c
def Eu (b:BR) (p:Nat→Nat):PV := .agg (eK (ofQ ((bd b).Kh p)) (ofQ ((bd b).Kc p)) (ofQ ((bd b).Kp p)))
theorem t7 (b:BR) (hb:b.Ok) (a:AR) {z t:Rat} {n m:Nat} [ha:Va a z t n m] (hn:n+m≤60000):Ret Tryz.prog .shared 74 [.sl (b.l.map eS),.clo 139 [.dref (eA a) 0]] (Eu b ((bd b).pR z t)) :=
 o6 b.l hb.lim.l hb.few 139 (eA a) (fun s=>ofQ (aI s.k.m (ic s.k.s (yQ s z t) s.k.S.length))) ((bd b).k ((bd b).pR z t)) (fun s hs=>nt s (hb.lim.l.1 s hs) (bu hb.chkL s hs) a (by omega))
  (fun i hi=>kz (Vq.ofQ (h:=wc hb ((bd b).pR z t) hi)) (by decide))
theorem tZ (b:BR) (hb:b.Ok) (a:AR) {z t:Rat} {n m:Nat} [ha:Va a z t n m] (hn:n+m≤60000):Ret Tryz.prog .shared 74 [.sl (b.l.map eS),.clo 204 [.dref (eA a) 0]] (Eu b ((bd b).pL z t)) :=
 o6 b.l hb.lim.l hb.few 204 (eA a) (fun s=>wo s.k (yQ s z t) s.k.S.length) ((bd b).k ((bd b).pL z t)) (fun s hs=>ox s (hb.lim.l.1 s hs) (bu hb.chkL s hs) a (by omega))
  (fun i hi=>kz (y6 (hb.lim.l.1 _ (aB hi)).k _ _) (by decide))
structure TryC (b:BR) (a:AR) (z t:Rat) (fo mo:RR) (p:Nat→Nat) (d:Option (Rat × Rat)):Prop where
 mv:Ret Tryz.prog .shared 73 [Eu b p,.agg (eR fo),.agg (eR mo)] (iz d)
 af:∀x,d=some x→Ret Tryz.prog .shared 76 [.agg (eA a),.agg (eA ⟨ofQ x.1,ofQ x.2⟩)] (.agg (eA ⟨ofQ (z+x.1),ofQ (t+x.2)⟩))
 ba:∀x,d=some x→Ret Tryz.prog .shared 86 [.agg (eB b),.agg (eA ⟨ofQ (z+x.1),ofQ (t+x.2)⟩)] (.bool (decide ((bd b).Bal (z+x.1) (t+x.2))))
theorem Es (b:BR) (hb:b.Ok) (a:AR) {z t:Rat} {n m:Nat} (ha:Va a z t n m) (hn:n+m≤50000) {p:Nat→Nat} (hp:(bd b).Inc p z t) :
  TryC b a z t (ofQ ((bd b).w-(bd b).F z t)) (ofQ (-((bd b).e z t))) p (Bd.newt ((bd b).Kh p) ((bd b).Kc p) ((bd b).Kp p) ((bd b).w-(bd b).F z t) (-((bd b).e z t))):=by
 have hw:Zb b.w:=aE hb.lim.w.1 hb.lim.w.2
 have wq:HQ ((bd b).w) 4:=HQ.int
 have hF:HQ ((bd b).w-(bd b).F z t) (96*(n+m+62)+400):=(@HQ.sub _ _ 4 (96*((n+1)+(m+1)+60)+200) wq (AV hb.lim.l hb.few ha.z.hq ha.t.hq)).mono (by omega)
 have hE:HQ (-((bd b).e z t)) (96*(n+m+62)+400):=(@HQ.neg _ _ (Da hb ha.z.hq ha.t.hq)).mono (by omega)
 have hd:∀x,Bd.newt ((bd b).Kh p) ((bd b).Kc p) ((bd b).Kp p) ((bd b).w-(bd b).F z t) (-((bd b).e z t))=some x→HQ (z+x.1) 20000∧HQ (t+x.2) 20000:=fun x hx=>uD hb hp hx
 refine⟨wz _ _ _ _ _ (a:=300) (b:=96*(n+m+62)+400) (Vq.ofQ (h:=ue hb p)) (Vq.ofQ (h:=qD hb p)) (Vq.ofQ (h:=xV hb p)) (Vq.ofQ (h:=hF)) (Vq.ofQ (h:=hE)) (by decide) (by omega),fun x hx=>?_,fun x hx=>?_⟩
 ·obtain⟨h1,h2⟩:=hd x hx
  have q1:HQ x.1 (20000+(n+1)+1):=by
   have:=@HQ.sub _ _ 20000 (n+1) h1 ha.z.hq
   rwa [show z+x.1-z=x.1 by grind]at this
  have q2:HQ x.2 (20000+(m+1)+1):=by
   have:=@HQ.sub _ _ 20000 (m+1) h2 ha.t.hq
   rwa [show t+x.2-t=x.2 by grind]at this
  exact vq a ⟨ofQ x.1,ofQ x.2⟩ (hd:=⟨Vq.ofQ (h:=q1),Vq.ofQ (h:=q2)⟩) (by omega) (by omega) (by omega) (by omega)
 ·obtain⟨h1,h2⟩:=hd x hx
  exact pp b hb ⟨ofQ (z+x.1),ofQ (t+x.2)⟩ (ha:=⟨Vq.ofQ (h:=h1),Vq.ofQ (h:=h2)⟩) (by decide)
def xD (b:BR) (z t:Rat):Option (Rat × Rat)→Option (Rat × Rat)
 |none=>none
 |some d=>if (bd b).Bal (z+d.1) (t+d.2) then some (z+d.1,t+d.2) else none
def DA (b:BR) (z t:Rat) (p:Nat→Nat):Option (Rat × Rat):=Bd.newt ((bd b).Kh p) ((bd b).Kc p) ((bd b).Kp p) ((bd b).w-(bd b).F z t) (-((bd b).e z t))
theorem u7 (b:BR) (z t:Rat) (p:Nat→Nat):(bd b).tryP z t p=xD b z t (DA b z t p):=by
 rw[Bd.tryP,DA]
 cases Bd.newt ((bd b).Kh p) ((bd b).Kc p) ((bd b).Kp p) ((bd b).w-(bd b).F z t) (-((bd b).e z t))<;>rfl
set_option maxRecDepth 20000 in
theorem vY (b:BR) (hb:b.Ok) (a:AR) {z t:Rat} {n m:Nat} [ha:Va a z t n m] (hn:n+m≤50000):Ret Tryz.prog .shared 100 [.agg (eB b),.agg (eA a)] (Cv ((bd b).guess z t)):=by
 have h1:=jK b.l hb.lim.l hb.chkL hb.few a (by omega)
 have h2:=a8 b.w hb.lim.w
 have zw:Zb b.w:=aE hb.lim.w.1 hb.lim.w.2
 have v1:Vq (ofQ (ac (fI b.l z t) b.l.length)) (ac (fI b.l z t) b.l.length) (96*(n+1+(m+1)+60)+200):=Vq.ofQ (h:=AV hb.lim.l hb.few ha.z.hq ha.t.hq)
 have h3:=k7 (ofQ (b.w:Rat)) (ofQ (ac (fI b.l z t) b.l.length)) (hy:=v1) (by decide) (by omega)
 rw[show(b.w:Rat)-ac (fI b.l z t) b.l.length=(bd b).w-(bd b).F z t from rfl]at h3
 have h4:=mF b hb a (by omega)
 have v4:Vq (ofQ ((bd b).e z t)) ((bd b).e z t) (96*(n+1+(m+1)+60)+200+17+1):=Vq.ofQ (h:=Da hb ha.z.hq ha.t.hq)
 have h5:=Ed (ofQ ((bd b).e z t)) (hx:=v4) (by omega)
 have h6:=oV a
 have h7:=rl a
 have sR:=t7 b hb a (z:=z) (t:=t) (by omega)
 have sL:=tZ b hb a (z:=z) (t:=t) (by omega)
 have cR:=Es b hb a ha hn (Cx hb z t)
 have cL:=Es b hb a ha hn (Cw hb z t)
 rw[show Bd.newt ((bd b).Kh ((bd b).pR z t)) ((bd b).Kc ((bd b).pR z t)) ((bd b).Kp ((bd b).pR z t)) ((bd b).w-(bd b).F z t) (-((bd b).e z t))=DA b z t ((bd b).pR z t) from rfl]at cR
 rw[show Bd.newt ((bd b).Kh ((bd b).pL z t)) ((bd b).Kc ((bd b).pL z t)) ((bd b).Kp ((bd b).pL z t)) ((bd b).w-(bd b).F z t) (-((bd b).e z t))=DA b z t ((bd b).pL z t) from rfl]at cL
 generalize hG:(bd b).guess z t=G
 rw[Bd.guess,u7,u7]at hG
 generalize hPR:(bd b).pR z t=pR at *
 generalize hPL:(bd b).pL z t=pL at *
 obtain⟨m1,m2,m3⟩:=cR
 obtain⟨l1,l2,l3⟩:=cL
 generalize DA b z t pR=oR at *
 generalize DA b z t pL=oL at *
 rw[Eu]at sR sL m1 l1
 generalize ofQ ((bd b).Kh pR)=R1 at *
 generalize ofQ ((bd b).Kc pR)=R2 at *
 generalize ofQ ((bd b).Kp pR)=R3 at *
 generalize ofQ ((bd b).Kh pL)=L1 at *
 generalize ofQ ((bd b).Kc pL)=L2 at *
 generalize ofQ ((bd b).Kp pL)=L3 at *
 generalize ofQ ((bd b).w-(bd b).F z t)=FO at *
 generalize ofQ (-((bd b).e z t))=MO at *
 generalize ofQ ((bd b).e z t)=EX at *
 generalize ofQ (ac (fI b.l z t) b.l.length)=TF at *
 generalize ofQ (ac (gI b.l z t) b.l.length)=TG at *
 refine Ret.of_pwp layOk mixed Go.Proofs.Tryz.func100 rfl (by decide) rfl rfl ?_
 repeat refine aa rfl ?_
 refine ak rfl rfl rfl h1 rfl rfl ?_
 repeat refine aa rfl ?_
 refine aU 6 1 [21,22,23,24,25,26,8] [] (by decide +kernel) rfl ?_
 repeat refine aa rfl ?_
 refine ak rfl rfl rfl h2 rfl rfl ?_
 repeat refine aa rfl ?_
 refine ak rfl rfl rfl h3 rfl rfl ?_
 repeat refine aa rfl ?_
 refine ak rfl rfl rfl h4 rfl rfl ?_
 repeat refine aa rfl ?_
 refine ak rfl rfl rfl h5 rfl rfl ?_
 repeat refine aa rfl ?_
 refine bt [35] [4,5] (by decide +kernel) ?_
 repeat refine aa rfl ?_
 refine ak rfl rfl rfl h6 rfl rfl ?_
 repeat refine aa rfl ?_
 refine ak rfl rfl rfl h7 rfl rfl ?_
 repeat refine aa rfl ?_
 refine AT rfl rfl rfl (be 2 rfl rfl rfl rfl rfl rfl rfl rfl rfl rfl rfl (by repeat' constructor) rfl ⟨pW rfl,?_⟩)
 repeat refine aa rfl ?_
 refine am (fun i:Nat=>(i=0∧(match xD b z t oR with|some x=>some x|none=>xD b z t oL)=G)∨(i=1∧xD b z t oL=G)∨(i=2∧G=none)) (fun i=>[(2,.ptr 2 1 0 0),(3,.ptr 3 1 0 0),(4,.ptr 4 1 0 0),(8,.ptr 8 1 0 0),(9,.ptr 9 1 0 0),(35,.als 35 1 0 2),(36,I 2),(37,I (i:Nat))])
  (fun _=>[(2,1,⟨29,6,[eB b],2⟩),(3,1,⟨33,8,[eA a],2⟩),(4,1,⟨33,8,[zN++zN],2⟩),(8,1,⟨26,4,[eR FO],2⟩),(9,1,⟨26,4,[eR MO],2⟩),(35,1,⟨128,1,[[.clo 139 [.dref (eA a) 0]],[.clo 204 [.dref (eA a) 0]]],2⟩)]) (fun i=>2-i) 0 (.inl ⟨rfl,hG⟩) ⟨rfl,rfl,rfl,rfl,rfl,rfl,rfl,rfl,rfl,rfl,rfl,rfl,rfl,rfl,trivial⟩ ?_
 intro i s hi
 rcases hi with⟨rfl,hG⟩|⟨rfl,hG⟩|⟨rfl,hG⟩
 ·cases oR with
  |none =>
   repeat refine aa rfl ?_
   refine bH rfl rfl (bp rfl rfl rfl rfl rfl rfl rfl (by decide) (by decide)) ?_
   repeat refine aa rfl ?_
   refine bt [12] [10,11] (by decide +kernel) ?_
   repeat refine aa rfl ?_
   refine ak rfl rfl rfl sR rfl rfl ?_
   repeat refine aa rfl ?_
   refine ak rfl rfl rfl m1 rfl rfl ?_
   repeat refine aa rfl ?_
   refine ah 8 [51,52,53,54,55,56,57,58] (by decide +kernel) ?_
   repeat refine aa rfl ?_
   exact⟨1,.inr (.inl ⟨rfl,hG⟩),by decide,rfl,rfl,rfl,rfl,rfl,rfl,rfl,rfl,rfl,rfl,rfl,rfl,rfl,rfl,trivial⟩
  |some d =>
   have k1:=m2 d rfl
   have k2:=m3 d rfl
   rw[iz]at m1
   rw[xD]at hG
   by_cases hbal:(bd b).Bal (z+d.1) (t+d.2)
   ·rw[decide_eq_true hbal]at k2
    rw[if_pos hbal]at hG
    try simp only at hG
    subst hG
    rw[Cv]
    dsimp only
    generalize ofQ (z+d.1)=Y1 at *
    generalize ofQ (t+d.2)=Y2 at *
    generalize ofQ d.1=Y3 at *
    generalize ofQ d.2=Y4 at *
    repeat refine aa rfl ?_
    refine bH rfl rfl (bp rfl rfl rfl rfl rfl rfl rfl (by decide) (by decide)) ?_
    repeat refine aa rfl ?_
    refine bt [12] [10,11] (by decide +kernel) ?_
    repeat refine aa rfl ?_
    refine ak rfl rfl rfl sR rfl rfl ?_
    repeat refine aa rfl ?_
    refine ak rfl rfl rfl m1 rfl rfl ?_
    repeat refine aa rfl ?_
    refine ah 8 [51,52,53,54,55,56,57,58] (by decide +kernel) ?_
    repeat refine aa rfl ?_
    refine ak rfl rfl rfl k1 rfl rfl ?_
    repeat refine aa rfl ?_
    refine aP rfl rfl rfl k2 rfl rfl rfl ?_
    repeat refine aa rfl ?_
    refine ak rfl rfl rfl k1 rfl rfl ?_
    repeat refine aa rfl ?_
    exact aF rfl rfl rfl
   ·rw[decide_eq_false hbal]at k2
    rw[if_neg hbal]at hG
    try simp only at hG
    generalize ofQ (z+d.1)=Y1 at *
    generalize ofQ (t+d.2)=Y2 at *
    generalize ofQ d.1=Y3 at *
    generalize ofQ d.2=Y4 at *
    repeat refine aa rfl ?_
    refine bH rfl rfl (bp rfl rfl rfl rfl rfl rfl rfl (by decide) (by decide)) ?_
    repeat refine aa rfl ?_
    refine bt [12] [10,11] (by decide +kernel) ?_
    repeat refine aa rfl ?_
    refine ak rfl rfl rfl sR rfl rfl ?_
    repeat refine aa rfl ?_
    refine ak rfl rfl rfl m1 rfl rfl ?_
    repeat refine aa rfl ?_
    refine ah 8 [51,52,53,54,55,56,57,58] (by decide +kernel) ?_
    repeat refine aa rfl ?_
    refine ak rfl rfl rfl k1 rfl rfl ?_
    repeat refine aa rfl ?_
    refine aP rfl rfl rfl k2 rfl rfl rfl ?_
    repeat refine aa rfl ?_
    exact⟨1,.inr (.inl ⟨rfl,hG⟩),by decide,rfl,rfl,rfl,rfl,rfl,rfl,rfl,rfl,rfl,rfl,rfl,rfl,rfl,rfl,trivial⟩
 ·cases oL with
  |none =>
   repeat refine aa rfl ?_
   refine bH rfl rfl (bp rfl rfl rfl rfl rfl rfl rfl (by decide) (by decide)) ?_
   repeat refine aa rfl ?_
   refine bt [12] [10,11] (by decide +kernel) ?_
   repeat refine aa rfl ?_
   refine ak rfl rfl rfl sL rfl rfl ?_
   repeat refine aa rfl ?_
   refine ak rfl rfl rfl l1 rfl rfl ?_
   repeat refine aa rfl ?_
   refine ah 8 [51,52,53,54,55,56,57,58] (by decide +kernel) ?_
   repeat refine aa rfl ?_
   exact⟨2,.inr (.inr ⟨rfl,hG.symm⟩),by decide,rfl,rfl,rfl,rfl,rfl,rfl,rfl,rfl,rfl,rfl,rfl,rfl,rfl,rfl,trivial⟩
  |some d =>
   have k1:=l2 d rfl
   have k2:=l3 d rfl
   rw[iz]at l1
   rw[xD]at hG
   by_cases hbal:(bd b).Bal (z+d.1) (t+d.2)
   ·rw[decide_eq_true hbal]at k2
    rw[if_pos hbal]at hG
    try simp only at hG
    subst hG
    rw[Cv]
    dsimp only
    generalize ofQ (z+d.1)=Y1 at *
    generalize ofQ (t+d.2)=Y2 at *
    generalize ofQ d.1=Y3 at *
    generalize ofQ d.2=Y4 at *
    repeat refine aa rfl ?_
    refine bH rfl rfl (bp rfl rfl rfl rfl rfl rfl rfl (by decide) (by decide)) ?_
    repeat refine aa rfl ?_
    refine bt [12] [10,11] (by decide +kernel) ?_
    repeat refine aa rfl ?_
    refine ak rfl rfl rfl sL rfl rfl ?_
    repeat refine aa rfl ?_
    refine ak rfl rfl rfl l1 rfl rfl ?_
    repeat refine aa rfl ?_
    refine ah 8 [51,52,53,54,55,56,57,58] (by decide +kernel) ?_
    repeat refine aa rfl ?_
    refine ak rfl rfl rfl k1 rfl rfl ?_
    repeat refine aa rfl ?_
    refine aP rfl rfl rfl k2 rfl rfl rfl ?_
    repeat refine aa rfl ?_
    refine ak rfl rfl rfl k1 rfl rfl ?_
    repeat refine aa rfl ?_
    exact aF rfl rfl rfl
   ·rw[decide_eq_false hbal]at k2
    rw[if_neg hbal]at hG
    try simp only at hG
    generalize ofQ (z+d.1)=Y1 at *
    generalize ofQ (t+d.2)=Y2 at *
    generalize ofQ d.1=Y3 at *
    generalize ofQ d.2=Y4 at *
    repeat refine aa rfl ?_
    refine bH rfl rfl (bp rfl rfl rfl rfl rfl rfl rfl (by decide) (by decide)) ?_
    repeat refine aa rfl ?_
    refine bt [12] [10,11] (by decide +kernel) ?_
    repeat refine aa rfl ?_
    refine ak rfl rfl rfl sL rfl rfl ?_
    repeat refine aa rfl ?_
    refine ak rfl rfl rfl l1 rfl rfl ?_
    repeat refine aa rfl ?_
    refine ah 8 [51,52,53,54,55,56,57,58] (by decide +kernel) ?_
    repeat refine aa rfl ?_
    refine ak rfl rfl rfl k1 rfl rfl ?_
    repeat refine aa rfl ?_
    refine aP rfl rfl rfl k2 rfl rfl rfl ?_
    repeat refine aa rfl ?_
    exact⟨2,.inr (.inr ⟨rfl,hG.symm⟩),by decide,rfl,rfl,rfl,rfl,rfl,rfl,rfl,rfl,rfl,rfl,rfl,rfl,rfl,rfl,trivial⟩
 ·subst hG
  repeat refine aa rfl ?_
  exact aF rfl rfl rfl
def rV (s:SR) (z t:Rat):Rat:=aI s.k.m (ic s.k.s (yQ s z t) s.k.S.length)
def lV (s:SR) (z t:Rat):Rat:=aI s.k.m (kB s.k.s (yQ s z t) s.k.S.length)
def m_ (z t A B:Rat) (s:SR):Bool:=decide (¬((0<A+B*(s.x:Rat)∧rV s z t≠0)∨(A+B*(s.x:Rat)<0∧lV s z t≠0)))
def dM (l:List SR) (z t A B:Rat):Bool:=l.all (m_ z t A B)
theorem kn {p:Rat} (h:0<p):sgn p=1:=by rw[sgn,if_neg (by grind),if_neg (by grind)]
theorem qo {p:Rat} (h:p<0):sgn p = -1:=by rw[sgn,if_pos h]
theorem gv {p:Rat} (h:p=0):sgn p=0:=(fV p).2 h
theorem Ae {p:Rat} (h:p≠0):sgn p=1∨sgn p = -1:=by
 rcases Classical.em (0<p) with h1|h1
 ·exact .inl (kn h1)
 ·exact .inr (qo (by grind))
set_option maxRecDepth 20000 in
theorem yN (b:BR) (hb:b.Ok) (a:AR) {z t:Rat} {n m:Nat} [ha:Va a z t n m] (hn:n+m≤50000) (r:AR) {A B:Rat} {n' m':Nat} (hr:Va r A B n' m') (h2:n'≤100000) (h3:m'≤100000):Ret Tryz.prog .shared 103 [.agg (eB b),.agg (eA a),.agg (eA r)] (.bool (dM b.l z t A B)):=by
 have h6:=oV a
 have h7:=rl a
 have hck:=hb.chkL
 have hl:=hb.lim.l
 have h12:=hb.few.1
 have hrz:=hr.z
 have hrt:=hr.t
 generalize hF:dM b.l z t A B=F
 rw[dM]at hF
 obtain⟨w,ba,l⟩:=b
 simp only at *
 have hml:(l.map eS).length=l.length:=by simp
 obtain⟨rz,rt⟩:=r
 simp only at hrz hrt
 refine Ret.of_pwp layOk mixed Go.Proofs.Tryz.func103 rfl (by decide) rfl rfl ?_
 repeat refine aa rfl ?_
 refine am (fun i:Nat=>i≤l.length∧(l.drop i).all (m_ z t A B)=l.all (m_ z t A B)) (fun i=>[(4,.ptr 4 1 0 0),(5,.ptr 5 1 0 0),(11,.sl (l.map eS)),(12,I l.length),(13,I (i:Nat))])
  (fun i=>[(4,1,⟨33,8,[eA a],2⟩),(5,1,⟨38,8,[eA ⟨rz,rt⟩],2⟩)]) (fun i=>l.length-i) 0 ⟨Nat.zero_le _,by rw[List.drop_zero]⟩ ⟨rfl,rfl,rfl,by rw[←hml];rfl,rfl,rfl,rfl,trivial⟩ ?_
 intro i s ⟨hi,hall⟩
 repeat refine aa rfl ?_
 refine ab rfl ?_ ?_<;>intro h
 ·have hlt:i<l.length:=by have:=of_decide_eq_true h;omega
  clear h
  obtain⟨x,hx⟩:=aL hlt
  have hxm:=List.mem_of_getElem? hx
  have hxl:=hl.1 x hxm
  have hkc:=bu hck x hxm
  have zx:Zb x.x:=aE hxl.x.1 hxl.x.2
  have hw:=gz i
  have hdr:(l.drop i).all (m_ z t A B)=(m_ z t A B x&&(l.drop (i+1)).all (m_ z t A B)):=by
   obtain⟨hl1,h2⟩:=List.getElem?_eq_some_iff.1 hx
   rw[List.drop_eq_getElem_cons hl1,h2,List.all_cons]
  rw[hdr]at hall
  have hbd:m_ z t A B x=m_ z t A B x:=rfl
  conv at hbd=>rhs;rw[m_]
  have e1:=a8 x.x hxl.x
  have e2:=fR rt (ofQ (x.x:Rat)) (hx:=hrt) (by omega) (by decide)
  have v2:Vq (ofQ (B*(x.x:Rat))) (B*(x.x:Rat)) (m'+1+4):=Vq.ofQ (h:=@HQ.mul _ _ (m'+1) 4 hrt.hq HQ.int)
  have e3:=et rz (ofQ (B*(x.x:Rat))) (hx:=hrz) (hy:=v2) (by omega) (by omega)
  have v3:Vq (ofQ (A+B*(x.x:Rat))) (A+B*(x.x:Rat)) (n'+1+(m'+1+4)+1):=Vq.ofQ (h:=@HQ.add _ _ (n'+1) _ hrz.hq (bX v2))
  have e4:=nA (ofQ (A+B*(x.x:Rat))) (hx:=v3) (by omega)
  have cr:=nt x hxl hkc a (z:=z) (t:=t) (by omega)
  have cl:=ox x hxl hkc a (z:=z) (t:=t) (by omega)
  rw[show aI x.k.m (ic x.k.s (yQ x z t) x.k.S.length)=rV x z t from rfl]at cr
  have vr:Vq (ofQ (rV x z t)) (rV x z t) 13:=Vq.ofQ (h:=(lp x.k hxl.k _).hq)
  have vl:Vq (wo x.k (yQ x z t) x.k.S.length) (lV x z t) 12:=y6 hxl.k _ _
  have sr:=nA (ofQ (rV x z t)) (hx:=vr) (by decide)
  have sl:=nA (wo x.k (yQ x z t) x.k.S.length) (hx:=vl) (by decide)
  generalize ofQ (rV x z t)=RV at *
  generalize wo x.k (yQ x z t) x.k.S.length=LV at *
  generalize m_ z t A B x=ok at *
  generalize ofQ (A+B*(x.x:Rat))=D1 at *
  generalize ofQ (B*(x.x:Rat))=D2 at *
  generalize ofQ (x.x:Rat)=D3 at *
  rcases Classical.em (0<A+B*(x.x:Rat)) with hd|hd
  ·rw[kn hd]at e4
   rcases Classical.em (rV x z t=0) with hz|hz
   ·rw[gv hz]at sr
    have hbad:ok=true:=by rw[hbd,decide_eq_true];rintro(⟨_,h⟩|⟨h,_⟩);exact h hz;grind
    rw[hbad,Bool.true_and]at hall
    repeat refine aa rfl ?_
    refine aZ rfl rfl rfl rfl rfl rfl rfl hx rfl ?_
    repeat refine aa rfl ?_
    refine ah 11 [17,18,19,20,21,22,23,24,25,26,9] (by decide +kernel) ?_
    repeat refine aa rfl ?_
    refine ak rfl rfl rfl e1 rfl rfl ?_
    repeat refine aa rfl ?_
    refine ak rfl rfl rfl e2 rfl rfl ?_
    repeat refine aa rfl ?_
    refine ak rfl rfl rfl e3 rfl rfl ?_
    repeat refine aa rfl ?_
    refine aP rfl rfl rfl e4 rfl rfl rfl ?_
    repeat refine aa rfl ?_
    refine ah 22 [27,28,29,30,31,32,33,34,35,36,37,38,39,40,41,42,43,44,45,46,47,48] (by decide +kernel) ?_
    repeat refine aa rfl ?_
    refine ak rfl rfl rfl h6 rfl rfl ?_
    repeat refine aa rfl ?_
    refine ak rfl rfl rfl cr rfl rfl ?_
    repeat refine aa rfl ?_
    refine aP rfl rfl rfl sr rfl rfl rfl ?_
    repeat refine aa rfl ?_
    exact⟨i+1,⟨by omega,hall⟩,by omega,rfl,rfl,rfl,rfl,congrArg I hw,rfl,rfl,trivial⟩
   ·have hbad:ok=false:=by rw[hbd,decide_eq_false];exact fun h=>h (.inl ⟨hd,hz⟩)
    rw[hbad,Bool.false_and]at hall
    rcases Ae hz with hs|hs
    ·rw[hs]at sr
     repeat refine aa rfl ?_
     refine aZ rfl rfl rfl rfl rfl rfl rfl hx rfl ?_
     repeat refine aa rfl ?_
     refine ah 11 [17,18,19,20,21,22,23,24,25,26,9] (by decide +kernel) ?_
     repeat refine aa rfl ?_
     refine ak rfl rfl rfl e1 rfl rfl ?_
     repeat refine aa rfl ?_
     refine ak rfl rfl rfl e2 rfl rfl ?_
     repeat refine aa rfl ?_
     refine ak rfl rfl rfl e3 rfl rfl ?_
     repeat refine aa rfl ?_
     refine aP rfl rfl rfl e4 rfl rfl rfl ?_
     repeat refine aa rfl ?_
     refine ah 22 [27,28,29,30,31,32,33,34,35,36,37,38,39,40,41,42,43,44,45,46,47,48] (by decide +kernel) ?_
     repeat refine aa rfl ?_
     refine ak rfl rfl rfl h6 rfl rfl ?_
     repeat refine aa rfl ?_
     refine ak rfl rfl rfl cr rfl rfl ?_
     repeat refine aa rfl ?_
     refine aP rfl rfl rfl sr rfl rfl rfl ?_
     repeat refine aa rfl ?_
     exact bi rfl rfl (by rw[←hF,←hall])
    ·rw[hs]at sr
     repeat refine aa rfl ?_
     refine aZ rfl rfl rfl rfl rfl rfl rfl hx rfl ?_
     repeat refine aa rfl ?_
     refine ah 11 [17,18,19,20,21,22,23,24,25,26,9] (by decide +kernel) ?_
     repeat refine aa rfl ?_
     refine ak rfl rfl rfl e1 rfl rfl ?_
     repeat refine aa rfl ?_
     refine ak rfl rfl rfl e2 rfl rfl ?_
     repeat refine aa rfl ?_
     refine ak rfl rfl rfl e3 rfl rfl ?_
     repeat refine aa rfl ?_
     refine aP rfl rfl rfl e4 rfl rfl rfl ?_
     repeat refine aa rfl ?_
     refine ah 22 [27,28,29,30,31,32,33,34,35,36,37,38,39,40,41,42,43,44,45,46,47,48] (by decide +kernel) ?_
     repeat refine aa rfl ?_
     refine ak rfl rfl rfl h6 rfl rfl ?_
     repeat refine aa rfl ?_
     refine ak rfl rfl rfl cr rfl rfl ?_
     repeat refine aa rfl ?_
     refine aP rfl rfl rfl sr rfl rfl rfl ?_
     repeat refine aa rfl ?_
     exact bi rfl rfl (by rw[←hF,←hall])
  ·rcases Classical.em (A+B*(x.x:Rat)<0) with hd2|hd2
   ·rw[qo hd2]at e4
    rcases Classical.em (lV x z t=0) with hz|hz
    ·rw[gv hz]at sl
     have hbad:ok=true:=by rw[hbd,decide_eq_true];rintro(⟨h,_⟩|⟨_,h⟩);exact hd h;exact h hz
     rw[hbad,Bool.true_and]at hall
     repeat refine aa rfl ?_
     refine aZ rfl rfl rfl rfl rfl rfl rfl hx rfl ?_
     repeat refine aa rfl ?_
     refine ah 11 [17,18,19,20,21,22,23,24,25,26,9] (by decide +kernel) ?_
     repeat refine aa rfl ?_
     refine ak rfl rfl rfl e1 rfl rfl ?_
     repeat refine aa rfl ?_
     refine ak rfl rfl rfl e2 rfl rfl ?_
     repeat refine aa rfl ?_
     refine ak rfl rfl rfl e3 rfl rfl ?_
     repeat refine aa rfl ?_
     refine aP rfl rfl rfl e4 rfl rfl rfl ?_
     repeat refine aa rfl ?_
     refine ah 22 [27,28,29,30,31,32,33,34,35,36,37,38,39,40,41,42,43,44,45,46,47,48] (by decide +kernel) ?_
     repeat refine aa rfl ?_
     refine ak rfl rfl rfl h7 rfl rfl ?_
     repeat refine aa rfl ?_
     refine ak rfl rfl rfl cl rfl rfl ?_
     repeat refine aa rfl ?_
     refine aP rfl rfl rfl sl rfl rfl rfl ?_
     repeat refine aa rfl ?_
     exact⟨i+1,⟨by omega,hall⟩,by omega,rfl,rfl,rfl,rfl,congrArg I hw,rfl,rfl,trivial⟩
    ·have hbad:ok=false:=by rw[hbd,decide_eq_false];exact fun h=>h (.inr ⟨hd2,hz⟩)
     rw[hbad,Bool.false_and]at hall
     rcases Ae hz with hs|hs
     ·rw[hs]at sl
      repeat refine aa rfl ?_
      refine aZ rfl rfl rfl rfl rfl rfl rfl hx rfl ?_
      repeat refine aa rfl ?_
      refine ah 11 [17,18,19,20,21,22,23,24,25,26,9] (by decide +kernel) ?_
      repeat refine aa rfl ?_
      refine ak rfl rfl rfl e1 rfl rfl ?_
      repeat refine aa rfl ?_
      refine ak rfl rfl rfl e2 rfl rfl ?_
      repeat refine aa rfl ?_
      refine ak rfl rfl rfl e3 rfl rfl ?_
      repeat refine aa rfl ?_
      refine aP rfl rfl rfl e4 rfl rfl rfl ?_
      repeat refine aa rfl ?_
      refine ah 22 [27,28,29,30,31,32,33,34,35,36,37,38,39,40,41,42,43,44,45,46,47,48] (by decide +kernel) ?_
      repeat refine aa rfl ?_
      refine ak rfl rfl rfl h7 rfl rfl ?_
      repeat refine aa rfl ?_
      refine ak rfl rfl rfl cl rfl rfl ?_
      repeat refine aa rfl ?_
      refine aP rfl rfl rfl sl rfl rfl rfl ?_
      repeat refine aa rfl ?_
      exact bi rfl rfl (by rw[←hF,←hall])
     ·rw[hs]at sl
      repeat refine aa rfl ?_
      refine aZ rfl rfl rfl rfl rfl rfl rfl hx rfl ?_
      repeat refine aa rfl ?_
      refine ah 11 [17,18,19,20,21,22,23,24,25,26,9] (by decide +kernel) ?_
      repeat refine aa rfl ?_
      refine ak rfl rfl rfl e1 rfl rfl ?_
      repeat refine aa rfl ?_
      refine ak rfl rfl rfl e2 rfl rfl ?_
      repeat refine aa rfl ?_
      refine ak rfl rfl rfl e3 rfl rfl ?_
      repeat refine aa rfl ?_
      refine aP rfl rfl rfl e4 rfl rfl rfl ?_
      repeat refine aa rfl ?_
      refine ah 22 [27,28,29,30,31,32,33,34,35,36,37,38,39,40,41,42,43,44,45,46,47,48] (by decide +kernel) ?_
      repeat refine aa rfl ?_
      refine ak rfl rfl rfl h7 rfl rfl ?_
      repeat refine aa rfl ?_
      refine ak rfl rfl rfl cl rfl rfl ?_
      repeat refine aa rfl ?_
      refine aP rfl rfl rfl sl rfl rfl rfl ?_
      repeat refine aa rfl ?_
      exact bi rfl rfl (by rw[←hF,←hall])
   ·rw[gv (show A+B*(x.x:Rat)=0 by grind)]at e4
    have hbad:ok=true:=by rw[hbd,decide_eq_true];rintro(⟨h,_⟩|⟨h,_⟩);exact hd h;exact hd2 h
    rw[hbad,Bool.true_and]at hall
    repeat refine aa rfl ?_
    refine aZ rfl rfl rfl rfl rfl rfl rfl hx rfl ?_
    repeat refine aa rfl ?_
    refine ah 11 [17,18,19,20,21,22,23,24,25,26,9] (by decide +kernel) ?_
    repeat refine aa rfl ?_
    refine ak rfl rfl rfl e1 rfl rfl ?_
    repeat refine aa rfl ?_
    refine ak rfl rfl rfl e2 rfl rfl ?_
    repeat refine aa rfl ?_
    refine ak rfl rfl rfl e3 rfl rfl ?_
    repeat refine aa rfl ?_
    refine aP rfl rfl rfl e4 rfl rfl rfl ?_
    repeat refine aa rfl ?_
    refine ah 22 [27,28,29,30,31,32,33,34,35,36,37,38,39,40,41,42,43,44,45,46,47,48] (by decide +kernel) ?_
    repeat refine aa rfl ?_
    exact⟨i+1,⟨by omega,hall⟩,by omega,rfl,rfl,rfl,rfl,congrArg I hw,rfl,rfl,trivial⟩
 ·have hie:i=l.length:=by have:=of_decide_eq_false h;omega
  clear h
  rw[hie,List.drop_length,List.all_nil]at hall
  rw[←hall]at hF
  subst hF
  repeat refine aa rfl ?_
  exact bi rfl rfl rfl
theorem td (b:BR) (hb:b.Ok) (a:AR) {z t:Rat} {n m:Nat} [ha:Va a z t n m] (hn:n+m≤50000) (r:AR) {A B:Rat} {n' m':Nat} (hr:Va r A B n' m') (h2:n'≤100000) (h3:m'≤100000):Ret Tryz.prog .shared 102 [.agg (eA r),.dref (eB b) 0,.dref (eA a) 0] (.bool (dM b.l z t A B)):=by
 have h1:=yN b hb a (z:=z) (t:=t) hn r hr h2 h3
 generalize dM b.l z t A B=F at *
 refine Ret.of_pwp layOk mixed Go.Proofs.Tryz.func102 rfl (by decide) rfl rfl ?_
 repeat refine aa rfl ?_
 refine aP rfl rfl rfl h1 rfl rfl rfl ?_
 repeat refine aa rfl ?_
 exact bi rfl rfl rfl
def mM (p:AR→Bool):List AR→Nat→Int
 |[],_ => -1
 |d::l,i=>if p d=true then(i:Int) else mM p l (i+1)
theorem q9 (p:AR→Bool):∀(l:List AR) (i:Nat),decide (0≤mM p l i)=l.any p
 |[],i=>rfl
 |d::l,i=>by
  rw[mM,List.any_cons]
  cases h:p d
  ·rw[if_neg (by decide),q9 p l (i+1),Bool.false_or]
  ·rw[if_pos rfl,Bool.true_or,decide_eq_true];omega
theorem vZ (p:AR→Bool) {l:List AR} {i:Nat} {x:AR} (h:l[i]? = some x):mM p (l.drop i) i=if p x=true then(i:Int) else mM p (l.drop (i+1)) (i+1):=by
 obtain⟨hl,rfl⟩:=List.getElem?_eq_some_iff.1 h
 rw[List.drop_eq_getElem_cons hl,mM]
set_option maxRecDepth 20000 in
theorem s9 (T:List AR) (hT:T.length≤1000) (f:FuncId) (c1 c2:List PV) (p:AR→Bool) (hg:∀d∈T,Ret Tryz.prog .shared f [.agg (eA d),.dref c1 0,.dref c2 0] (.bool (p d))):Ret Tryz.prog .shared 164 [.sl (T.map eA),.clo f [.dref c1 0,.dref c2 0]] (I (mM p T 0)):=by
 have hml:(T.map eA).length=T.length:=by simp
 generalize hF:mM p T 0=F
 refine Ret.of_pwp layOk mixed Go.Proofs.Tryz.func164 rfl (by decide) rfl rfl ?_
 repeat refine aa rfl ?_
 refine am (fun i:Nat=>i≤T.length∧mM p (T.drop i) i=F) (fun i=>[(0,.sl (T.map eA)),(1,.clo f [.dref c1 0,.dref c2 0]),(7,I T.length),(8,I (i:Nat))])
  (fun _=>[]) (fun i=>T.length-i) 0 ⟨Nat.zero_le _,by rw[List.drop_zero];exact hF⟩ ⟨rfl,rfl,by rw[←hml];rfl,rfl,trivial⟩ ?_
 intro i s ⟨hi,hall⟩
 repeat refine aa rfl ?_
 refine ab rfl ?_ ?_<;>intro h
 ·have hlt:i<T.length:=by have:=of_decide_eq_true h;omega
  clear h
  obtain⟨x,hx⟩:=aL hlt
  have hgx:=hg x (List.mem_of_getElem? hx)
  have hw:=gz i
  rw[vZ p hx]at hall
  cases hp:p x with
  |true =>
   rw[hp]at hgx
   rw[if_pos hp]at hall
   repeat refine aa rfl ?_
   refine aZ rfl rfl rfl rfl rfl rfl rfl hx rfl ?_
   repeat refine aa rfl ?_
   refine aP rfl rfl rfl hgx rfl rfl rfl ?_
   repeat refine aa rfl ?_
   exact aO rfl rfl (by rw[←hall])
  |false =>
   rw[hp]at hgx
   rw[if_neg (by rw[hp];decide)]at hall
   repeat refine aa rfl ?_
   refine aZ rfl rfl rfl rfl rfl rfl rfl hx rfl ?_
   repeat refine aa rfl ?_
   refine aP rfl rfl rfl hgx rfl rfl rfl ?_
   repeat refine aa rfl ?_
   exact⟨i+1,⟨by omega,hall⟩,by omega,rfl,rfl,rfl,congrArg I hw,trivial⟩
 ·have hie:i=T.length:=by have:=of_decide_eq_false h;omega
  clear h
  rw[hie,List.drop_length,mM]at hall
  rw[←hall]
  repeat refine aa rfl ?_
  exact aO rfl rfl rfl
theorem nV (T:List AR) (hT:T.length≤1000) (f:FuncId) (c1 c2:List PV) (p:AR→Bool) (hg:∀d∈T,Ret Tryz.prog .shared f [.agg (eA d),.dref c1 0,.dref c2 0] (.bool (p d))):Ret Tryz.prog .shared 101 [.sl (T.map eA),.clo f [.dref c1 0,.dref c2 0]] (.bool (T.any p)):=by
 have h1:=s9 T hT f c1 c2 p hg
 rw[←q9 p T 0]
 generalize mM p T 0=F at *
 refine Ret.of_pwp layOk mixed Go.Proofs.Tryz.func101 rfl (by decide) rfl rfl ?_
 repeat refine aa rfl ?_
 refine aP rfl rfl rfl h1 rfl rfl rfl ?_
 repeat refine aa rfl ?_
 exact bi rfl rfl rfl
set_option maxRecDepth 20000 in
theorem ua {K:St→Prop} {s:St} {d g2 g3:Nat} {R2 R3:Cont} {x:Operand} {tys:Array TypeId} {ty:TypeId} {pos:String} {af:Array Edge} (l:List SR) (hl:eJ l) (h12:l.length≤1000) (hck:bD l=0)
  (hx:s.ev x = .sl (l.map eS)) (ho:FitO s [(2,g2,R2),(1003,g3,R3)])
  (hK:∀(s1:St) (g:Nat),K (({ reg:=s.reg,own:=(s1.over [] [(2,g2,R2),(1003,g3,R3),(3,g,⟨38,8,(bI l).map eA,1⟩)]).own }:St).putR d (.als 3 g 0 ((bI l).map eA).length))) :
  Sm Tryz.prog lay.get s ⟨some d,.call ⟨.value (.func 56),#[x],tys⟩,ty,pos,af,none⟩ K:=by
 have hp:=ni l hl h12
 have hrg:∀x∈aW l,-1000000≤x∧x≤1000000:=fun x hx=>dx hck hx
 have hpl:=fj l
 have w1:=a8 1 ⟨by decide,by decide⟩
 have w2:=a8 (-1) ⟨by decide,by decide⟩
 rw[bI]at hK
 generalize aW l=Pl at *
 have hml:(Pl.map eN).length=Pl.length:=by simp
 have hrows:∀(k:Nat) x,Pl[k]? = some x→((Pl.take (k+1)).map iJ).map eA=((Pl.take k).map iJ).map eA++[eA (iJ x)]:=fun k x hx=>by rw[bY hx,List.map_append,List.map_append];rfl
 have hrows2:∀(k:Nat) x,Pl[k]? = some x→(Pl.map iJ++(Pl.take (k+1)).map nS).map eA=(Pl.map iJ++(Pl.take k).map nS).map eA++[eA (nS x)]:=fun k x hx=>by rw[bY hx];simp[List.map_append]
 refine cp layOk rfl rfl Tryz.func56 rfl (by decide) rfl rfl ?_
 show PWP _ _ _ _ (bC s (([x]:List Operand).map s.ev++[]))
 rw[show(([x]:List Operand).map s.ev++([]:List PV))=[.sl (l.map eS)] by simp[hx]]
 rw[show bC s [.sl (l.map eS)]=bC (s.over [] [(2,g2,R2),(1003,g3,R3)]) [.sl (l.map eS)] by rw[Fit.over (l:=[]) ho]]
 ((repeat (first|refine aJ ?_ | refine b5 ?_ | refine bJ ?_ | refine bF ?_));refine aS ?_)
 refine ia rfl trivial ?_
 ((repeat (first|refine aJ ?_ | refine b5 ?_ | refine bJ ?_ | refine bF ?_));refine aS ?_)
 (first|refine ar (fh 38 8 1 rfl rfl ?_)|refine ar (fg 38 8 1 rfl rfl ?_))
 repeat refine aa rfl ?_
 refine ak rfl rfl rfl hp rfl rfl ?_
 repeat refine aa rfl ?_
 refine cg [(0,.sl (l.map eS)),(3,.als 3 ((s.own 3).1+1) 0 0),(9,.sl (Pl.map eN)),(10,I (Pl.map eN).length),(11,I ((0:Nat):Int))] [(2,g2,R2),(1003,g3,R3),(3,(s.own 3).1+1,⟨38,8,[],1⟩)] ⟨rfl,rfl,rfl,rfl,rfl,rfl,rfl,rfl,trivial⟩ ?_
 generalize (s.own 3).1+1=g
 rw[hml]
 intro s0
 refine am (fun k=>k≤Pl.length) (fun k=>[(0,.sl (l.map eS)),(3,.als 3 (g+k) 0 (((Pl.take k).map iJ).map eA).length),(9,.sl (Pl.map eN)),(10,I Pl.length),(11,I k)]) (fun k=>[(2,g2,R2),(1003,g3,R3),(3,g+k,⟨38,8,((Pl.take k).map iJ).map eA,1⟩)]) (fun k=>Pl.length-k) 0 (Nat.zero_le _) ⟨rfl,rfl,rfl,rfl,rfl,rfl,rfl,rfl,trivial⟩ ?_
 intro k s1 hk
 repeat refine aa rfl ?_
 refine ab rfl ?_ ?_<;>intro h
 ·have hlt:k<Pl.length:=by have:=of_decide_eq_true h;omega
  clear h
  obtain⟨x,hx⟩:=aL hlt
  have hr:=hrg x (List.mem_of_getElem? hx)
  have hnx:=a8 (-x) ⟨by omega,by omega⟩
  have hw:=gz k
  have hn:IntKind.i64.wrap (0-x) = -x:=by rw[wrap_i64 (by omega) (by omega)];omega
  repeat refine aa rfl ?_
  refine aZ rfl rfl rfl rfl rfl rfl rfl hx rfl ?_
  repeat refine aa rfl ?_
  rw[hn]
  refine ak rfl rfl rfl hnx rfl rfl ?_
  repeat refine aa rfl ?_
  refine ak rfl rfl rfl w1 rfl rfl ?_
  repeat refine aa rfl ?_
  refine ar (be 1 rfl rfl rfl rfl rfl rfl rfl rfl rfl rfl rfl (by repeat' constructor) rfl ?_)
  repeat refine aa rfl ?_
  refine ar (bE 1 rfl rfl rfl rfl rfl rfl rfl rfl rfl rfl rfl (by repeat' constructor) (by intro row hr;first|(simp at hr;subst hr;rfl)|simp at hr) rfl rfl (by simp;omega) (by simp;omega) ?_)
  repeat refine aa rfl ?_
  refine⟨k+1,hlt,by omega,rfl,?_,rfl,rfl,congrArg I hw,rfl,rfl,?_,trivial⟩
  ·rw[hrows k x hx];rfl
  ·rw[hrows k x hx];rfl
 ·have hge:k=Pl.length:=by have:=of_decide_eq_false h;omega
  subst hge
  clear h
  rw[List.take_length]
  repeat refine aa rfl ?_
  refine ak rfl rfl rfl hp rfl rfl ?_
  repeat refine aa rfl ?_
  refine am (fun k=>k≤Pl.length) (fun k=>[(3,.als 3 (g+Pl.length+k) 0 ((Pl.map iJ++(Pl.take k).map nS).map eA).length),(25,.sl (Pl.map eN)),(26,I Pl.length),(27,I k)]) (fun k=>[(2,g2,R2),(1003,g3,R3),(3,g+Pl.length+k,⟨38,8,(Pl.map iJ++(Pl.take k).map nS).map eA,1⟩)]) (fun k=>Pl.length-k) 0 (Nat.zero_le _) ⟨by rw[List.take_zero,List.map_nil,List.append_nil];rfl,rfl,by rw[←hml];rfl,rfl,rfl,rfl,by rw[List.take_zero,List.map_nil,List.append_nil];rfl,trivial⟩ ?_
  intro k s2 hk
  repeat refine aa rfl ?_
  refine ab rfl ?_ ?_<;>intro h
  ·have hlt:k<Pl.length:=by have:=of_decide_eq_true h;omega
   clear h
   obtain⟨x,hx⟩:=aL hlt
   have hr:=hrg x (List.mem_of_getElem? hx)
   have hnx:=a8 x ⟨by omega,by omega⟩
   have hw:=gz k
   repeat refine aa rfl ?_
   refine aZ rfl rfl rfl rfl rfl rfl rfl hx rfl ?_
   repeat refine aa rfl ?_
   refine ak rfl rfl rfl hnx rfl rfl ?_
   repeat refine aa rfl ?_
   refine ak rfl rfl rfl w2 rfl rfl ?_
   repeat refine aa rfl ?_
   refine ar (be 1 rfl rfl rfl rfl rfl rfl rfl rfl rfl rfl rfl (by repeat' constructor) rfl ?_)
   repeat refine aa rfl ?_
   refine ar (bE 1 rfl rfl rfl rfl rfl rfl rfl rfl rfl rfl rfl (by repeat' constructor) (by intro row hr;first|(simp at hr;subst hr;rfl)|simp at hr) rfl rfl (by simp;omega) (by simp;omega) ?_)
   repeat refine aa rfl ?_
   refine⟨k+1,hlt,by omega,?_,rfl,rfl,congrArg I hw,rfl,rfl,?_,trivial⟩
   ·rw[hrows2 k x hx];rfl
   ·rw[hrows2 k x hx];rfl
  ·have hge:k=Pl.length:=by have:=of_decide_eq_false h;omega
   subst hge
   clear h
   rw[List.take_length]
   repeat refine aa rfl ?_
   exact lW rfl rfl (hK s2 (g+Pl.length+Pl.length))
def oW:AR:=⟨ofQ ((-1:Int):Rat),ofQ ((0:Int):Rat)⟩
def dX (l:List SR):List AR:=bI l++[bz,oW]
def cw (b:BR) (z t:Rat):Bool:=(dX b.l).any fun d=>dM b.l z t d.z.val d.t.val
theorem pD {l:List SR} (hck:bD l=0) {r:AR} (h:r∈dX l):Va r r.z.val r.t.val 4 4:=by
 rw[dX,List.mem_append]at h
 rcases h with h|h
 ·exact l_ hck h
 ·simp at h
  rcases h with rfl|rfl
  ·exact lR
  ·exact⟨vI ⟨by decide,by decide⟩,vI ⟨by decide,by decide⟩⟩
theorem Cc {r1 r2:List PV} {n:Nat} (h1:r1.length=n) (h2:r2.length=n):∀row∈[r1,r2],row.length=n:=by
 intro row hr
 rcases List.mem_cons.1 hr with rfl|hr
 ·exact h1
 ·rcases List.mem_cons.1 hr with rfl|hr
  ·exact h2
  ·cases hr
set_option maxRecDepth 20000 in
theorem oy (b:BR) (hb:b.Ok) (a:AR) {z t:Rat} {n m:Nat} [ha:Va a z t n m] (hn:n+m≤50000):Ret Tryz.prog .shared 46 [.agg (eB b),.agg (eA a)] (.bool (cw b z t)):=by
 have hl:=hb.lim.l
 have hck:=hb.chkL
 have h12:=hb.few.1
 have hlen:(dX b.l).length≤1000:=by
  have:=fj b.l
  rw[dX,bI];simp;omega
 have hc:=nV (dX b.l) hlen 102 (eB b) (eA a) (fun d=>dM b.l z t d.z.val d.t.val) fun d hd=>td b hb a (z:=z) (t:=t) hn d (pD hck hd) (by decide) (by decide)
 rw[show(dX b.l).any (fun d=>dM b.l z t d.z.val d.t.val)=cw b z t from rfl]at hc
 have w1:=a8 1 ⟨by decide,by decide⟩
 have w0:=a8 0 ⟨by decide,by decide⟩
 have w2:=a8 (-1) ⟨by decide,by decide⟩
 generalize cw b z t=F at *
 have hT:(bI b.l).length≤1000:=by rw[dX]at hlen;simp at hlen;omega
 have hrow:(bI b.l).map eA++[eA bz,eA oW]=(dX b.l).map eA:=by rw[dX,List.map_append];rfl
 refine Ret.of_pwp layOk mixed Go.Proofs.Tryz.func46 rfl (by decide) rfl rfl ?_
 (repeat ((fail_if_success (with_reducible refine aT 1 ?_));refine dh rfl ?_))
 refine ay (Ghost.move (k:=3) (k':=1003) (t:=3) rfl rfl rfl rfl) ?_
 ((repeat ((fail_if_success (with_reducible refine aT 1 ?_));refine dh rfl ?_));refine aG 2 ?_)
 iterate 2 refine aa rfl ?_
 refine aJ ?_
 refine a_ rfl (ua (g2:=1) (g3:=1) b.l hl (by omega) hck rfl ⟨rfl,rfl,trivial⟩ fun s1 g=>?_)
 refine aM ?_
 repeat refine aa rfl ?_
 refine ak rfl rfl rfl w1 rfl rfl ?_
 repeat refine aa rfl ?_
 refine ak rfl rfl rfl w0 rfl rfl ?_
 repeat refine aa rfl ?_
 refine ak rfl rfl rfl w2 rfl rfl ?_
 repeat refine aa rfl ?_
 refine ak rfl rfl rfl w0 rfl rfl ?_
 repeat refine aa rfl ?_
 refine ar (be 1 rfl rfl rfl rfl rfl rfl rfl rfl rfl rfl rfl (by repeat' constructor) rfl ?_)
 repeat refine aa rfl ?_
 refine ar (bE 1 rfl rfl rfl rfl rfl rfl rfl rfl rfl rfl rfl (by repeat' constructor) (Cc rfl rfl) rfl rfl (by simp;omega) (by simp;omega) ?_)
 (repeat ((fail_if_success (with_reducible refine aT 2 ?_));refine dh rfl ?_))
 refine ay (Ghost.data (k:=2) (t:=2) rfl rfl rfl rfl) ?_
 refine ay (Ghost.data (k:=1003) (t:=3) rfl rfl rfl rfl) ?_
 repeat refine aa rfl ?_
 rw[←hrow]at hc
 refine aP rfl rfl rfl hc rfl rfl rfl ?_
 repeat refine aa rfl ?_
 exact bi rfl rfl rfl
theorem DT (s:SR) (t:Rat) (k:Nat):prB (bn s t k)=(s.k.s k-(s.c.val+t*(s.x:Rat)),s.k.m k-aI s.k.m k):=by
 rw[prB,bn,ofQ_val,ofQ_val];rfl
theorem C5 (b:BR) (t:Rat):(i9 b.l t).map prB=(bd b).bnds t:=by
 rw[i9,Bd.bnds,List.map_flatMap]
 show _=(List.range b.l.length).flatMap ((bd b).bnd1 t)
 have e:∀s:SR,(lq t s).map prB=(List.range s.k.S.length).map fun k=>(s.k.s k-(s.c.val+t*(s.x:Rat)),s.k.m k-aI s.k.m k):=by
  intro s
  rw[lq,List.map_map]
  exact List.map_congr_left fun k _=>DT s t k
 have key:∀(l:List SR),(l.flatMap fun s=>(lq t s).map prB)=(List.range l.length).flatMap fun i=>(lq t (l.getD i dS)).map prB:=by
  intro l
  induction l with
  |nil=>rfl
  |cons x l ih =>
   rw[List.flatMap_cons,ih,List.length_cons,List.range_succ_eq_map,List.flatMap_cons,List.flatMap_map]
   rfl
 rw[key]
 refine congrArg (fun f=>(List.range b.l.length).flatMap f) (funext fun i=>?_)
 rw[e]
 rfl
theorem k6 {b:BR} (hb:b.Ok) {t:Rat} (hex:∃z,(bd b).w≤(bd b).F z t):(bd b).Least (fx b t) t:=by
 refine Bd.settled_least (eG hb) hex ?_ ?_
 ·rw[←C5]
  exact(gR i8 (i9 b.l t)).map prB
 ·rw[yd,List.pairwise_map]
  exact qs i8 (i9 b.l t)
theorem iG {b:BR} (hb:b.Ok) {t:Rat} (hex:∃z,(bd b).w≤(bd b).F z t):fx b t=(bd b).sg t:=(Bd.sg_eq (k6 hb hex)).symm
theorem yY {b:BR} (z t:Rat):(bd b).Inl ((bd b).pL z t) z t:=fun i hi=>ng
theorem t8 {b:BR} (hb:b.Ok) {t:Rat} {m:Nat} (ht:HQ t m) (hex:∃z,(bd b).w≤(bd b).F z t):HQ (fx b t) (m+5000):=by
 have hl:=k6 hb hex
 have hK:=hl.K (eG hb) (yY _ _)
 have hz:=Bd.ln_at (eG hb) hl.1 (yY (b:=b) (fx b t) t).c hK
 rw[hz,Bd.ln]
 have hw:Zb b.w:=aE hb.lim.w.1 hb.lim.w.2
 have wq:HQ ((bd b).w) 4:=HQ.int
 have hpn:∀i,i<b.l.length→(bd b).pL (fx b t) t i≤(bd b).n i:=fun i hi=>(yY (b:=b) (fx b t) t i hi).1
 have fo:=xT hb hpn
 have kc:=qD hb ((bd b).pL (fx b t) t)
 have kh:=ue hb ((bd b).pL (fx b t) t)
 exact(@HQ.div _ _ _ 300 (@HQ.sub _ _ _ _ (@HQ.sub _ _ 4 4100 wq fo) (@HQ.mul _ _ 300 m kc ht)) kh).mono (by omega)
theorem Ay {b:BR} (hb:b.Ok) {t:Rat} {m:Nat} (ht:HQ t m) (hex:∃z,(bd b).w≤(bd b).F z t):Va ⟨ofQ (fx b t),ofQ t⟩ (fx b t) t (m+5000) m:=⟨Vq.ofQ (h:=t8 hb ht hex),Vq.ofQ (h:=ht)⟩
theorem qX {b:BR} (hb:b.Ok) {t:Rat} {m:Nat} (ht:HQ t m) (hm:m≤20000) (hex:∃z,(bd b).w≤(bd b).F z t):Ret Tryz.prog .shared 97 [.agg (eB b),.agg (eA ⟨ofQ (fx b t),ofQ t⟩)] (.agg (eR (ofQ ((bd b).E t)))):=by
 have:=mF b hb ⟨ofQ (fx b t),ofQ t⟩ (ha:=Ay hb ht hex) (by omega)
 rwa [show(bd b).e (fx b t) t=(bd b).E t by rw[Bd.E,iG hb hex]]at this
theorem xh {b:BR} (hb:b.Ok) {t:Rat} {m:Nat} (ht:HQ t m) (hm:m≤20000) (hex:∃z,(bd b).w≤(bd b).F z t):Ret Tryz.prog .shared 60 [.agg (eR (ofQ ((bd b).E t)))] (I (sgn ((bd b).E t))):=by
 have h1:=Da hb (t8 hb ht hex) ht
 rw[show(bd b).e (fx b t) t=(bd b).E t by rw[Bd.E,iG hb hex]]at h1
 exact nA (ofQ ((bd b).E t)) (hx:=Vq.ofQ (h:=h1)) (by omega)
theorem mI {b:BR} (hb:b.Ok) {t:Rat} {m:Nat} (ht:HQ t m) (hm:m≤20000) (hex:∃z,(bd b).w≤(bd b).F z t):Ret Tryz.prog .shared 100 [.agg (eB b),.agg (eA ⟨ofQ (fx b t),ofQ t⟩)] (Cv ((bd b).guess ((bd b).sg t) t)):=by
 have:=vY b hb ⟨ofQ (fx b t),ofQ t⟩ (ha:=Ay hb ht hex) (by omega)
 rwa [←iG hb hex]
def p2 (k:Nat):Rat:=((2^k:Nat):Int)
theorem j4 (k:Nat):p2 (k+1)=p2 k+p2 k:=by
 rw[p2,p2,Nat.pow_succ,show((2^k*2:Nat):Int)=((2^k:Nat):Int)+((2^k:Nat):Int) by omega]
 push_cast
 rfl
theorem rM {k:Nat}:HQ (p2 k) (k/16+1):=by
 refine⟨jp ?_ (by omega)⟩
 rw[Int.natAbs_natCast,show(65536:Nat)=2^16 by decide,←Nat.pow_mul]
 exact Nat.pow_lt_pow_right (by decide) (by omega)
theorem Be {b:Bd} {n:Nat} {w:Rat}:b.dbl (-1) (n+1) w=if 0<b.E (-w) then b.dbl (-1) n (w+w) else some w:=by
 rw[Bd.dbl]
 have e:(-1:Rat)*w = -w:=by grind
 rw[e]
 by_cases h:0<b.E (-w)
 ·rw[if_pos h,if_pos (by grind)]
 ·rw[if_neg h,if_neg (by grind)]
theorem Bf {b:Bd} {n:Nat} {w:Rat}:b.dbl 1 (n+1) w=if b.E w<0 then b.dbl 1 n (w+w) else some w:=by
 rw[Bd.dbl]
 have e:(1:Rat)*w=w:=by grind
 rw[e]
 by_cases h:b.E w<0
 ·rw[if_pos h,if_pos (by grind)]
 ·rw[if_neg h,if_neg (by grind)]
def Dy (N j:Nat) (t:Rat):Prop:=∃a:Int,t=(a:Rat)/((2^j:Nat):Int)∧a.natAbs≤2^(j+N)
theorem AJ (j:Nat):(((2^j:Nat):Int))≠0:=by have:=Nat.two_pow_pos j;omega
theorem Dy.hq {N j:Nat} {t:Rat} (h:Dy N j t):HQ t ((j+N)/16+1):=by
 obtain⟨a,rfl,ha⟩:=h
 have key:2^(j+N)<65536^((j+N)/16+1):=by
  rw[show(65536:Nat)=2^16 by decide,←Nat.pow_mul]
  exact Nat.pow_lt_pow_right (by decide) (by omega)
 have h2:2^j≤2^(j+N):=Nat.pow_le_pow_right (by decide) (by omega)
 exact⟨mL (AJ j) (by omega) (by rw[Int.natAbs_natCast];omega)⟩
theorem Dy.mid {N j:Nat} {lo hi:Rat} (h1:Dy N j lo) (h2:Dy N j hi):Dy N (j+1) ((lo+hi)/2):=by
 obtain⟨a,rfl,ha⟩:=h1
 obtain⟨c,rfl,hc⟩:=h2
 refine⟨a+c,?_,?_⟩
 ·have e:(((2^(j+1):Nat):Int):Rat)=2*(((2^j:Nat):Int):Rat):=by
   rw[Nat.pow_succ,show((2^j*2:Nat):Int)=2*((2^j:Nat):Int) by omega];push_cast;rfl
  have hn:(((2^j:Nat):Int):Rat)≠0:=by have:=AJ j;exact_mod_cast this
  rw[e]
  push_cast
  generalize (((2^j:Nat):Int):Rat)=D at *
  grind
 ·rw[show j+1+N=(j+N)+1 by omega,Nat.pow_succ]
  omega
theorem Dy.up {N j:Nat} {t:Rat} (h:Dy N j t):Dy N (j+1) t:=by
 have:=Dy.mid h h
 rwa [show(t+t)/2=t by grind]at this
noncomputable def f3 (b:Bd):List Rat→Option (Rat × Rat)
 |[]=>none
 |t::r=>match b.at1 t with
  |some x=>some x
  |none=>f3 b r
theorem Bq (b:Bd) (lo hi:Rat):b.fst3 lo hi=f3 b [0,lo,hi]:=by
 rw[Bd.fst3,f3,f3,f3,f3]
 cases b.at1 0<;>cases b.at1 lo<;>cases b.at1 hi<;>rfl
set_option maxRecDepth 20000 in
theorem oh (b:BR) (hb:b.Ok) (h40:∀t,(i9 b.l t).length≤40) (hS:∀t,SortC (i9 b.l t)) (hex:∀t,∃z,(bd b).w≤(bd b).F z t) {N:Nat} (hN:N≤150000) {x:Rat × Rat} (hx:(bd b).eqQ N=some x):Ret Tryz.prog .shared 45 [.agg (eB b)] (.agg (eA ⟨ofQ x.1,ofQ x.2⟩)):=by
 have w1:=a8 1 ⟨by decide,by decide⟩
 have wm:=a8 (-1) ⟨by decide,by decide⟩
 rw[show(((1:Int):Int):Rat)=p2 0 from rfl]at w1
 rw[show(((-1:Int):Int):Rat) = -p2 0 by rw[show p2 0=1 from rfl];rfl]at wm
 rw[Bd.eqQ]at hx
 obtain⟨Wl,hWl⟩:∃W,(bd b).dbl (-1) N 1=some W:=by
  cases h:(bd b).dbl (-1) N 1 with
  |none=>rw[h]at hx;cases hx
  |some W=>exact⟨W,rfl⟩
 obtain⟨Wh,hWh⟩:∃W,(bd b).dbl 1 N 1=some W:=by
  cases h:(bd b).dbl 1 N 1 with
  |none=>rw[hWl,h]at hx;cases hx
  |some W=>exact⟨W,rfl⟩
 rw[hWl,hWh]at hx
 simp only at hx
 have row:∀(t:Rat) (m:Nat),HQ t m→m≤20000→Ret Tryz.prog .shared 98 [.agg (eB b),.agg (eR (ofQ t))] (.agg (eA ⟨ofQ (fx b t),ofQ t⟩))∧Ret Tryz.prog .shared 97 [.agg (eB b),.agg (eA ⟨ofQ (fx b t),ofQ t⟩)] (.agg (eR (ofQ ((bd b).E t))))∧Ret Tryz.prog .shared 60 [.agg (eR (ofQ ((bd b).E t)))] (I (sgn ((bd b).E t))):=fun t m ht hm =>
  ⟨r7 b hb (h40 t) (hS t) (ofQ t) (ht:=Vq.ofQ (h:=ht)) (by omega),qX hb ht hm (hex t),xh hb ht hm (hex t)⟩
 refine Ret.of_pwp layOk mixed Go.Proofs.Tryz.func45 rfl (by decide) rfl rfl ?_
 repeat refine aa rfl ?_
 refine ak rfl rfl rfl w1 rfl rfl ?_
 repeat refine aa rfl ?_
 refine ak rfl rfl rfl wm rfl rfl ?_
 repeat refine aa rfl ?_
 refine ak rfl rfl rfl w1 rfl rfl ?_
 repeat refine aa rfl ?_
 refine am (fun k:Nat=>k<N∧(bd b).dbl (-1) (N-k) (p2 k)=some Wl) (fun k=>[(1,.ptr 1 1 0 0),(2,.ptr 2 1 0 0),(3,.ptr 3 1 0 0),(4,.ptr 4 1 0 0),(5,.ptr 5 1 0 0)])
  (fun k=>[(1,1,⟨29,6,[eB b],2⟩),(2,1,⟨33,8,[zN++zN],2⟩),(3,1,⟨26,4,[eR (ofQ (p2 k))],2⟩),(4,1,⟨26,4,[eR (ofQ (-p2 k))],2⟩),(5,1,⟨26,4,[eR (ofQ (p2 0))],2⟩)]) (fun k=>N-k) 0
  ⟨by rcases Nat.eq_zero_or_pos N with h|h;· subst h;cases hWl
      exact h,hWl⟩ ⟨rfl,rfl,rfl,rfl,rfl,rfl,rfl,rfl,rfl,rfl,trivial⟩ ?_
 intro k s ⟨hk,hd⟩
 obtain⟨j,hj⟩:∃j,N-k=j+1:=⟨N-k-1,by omega⟩
 rw[hj,Be]at hd
 have hq:HQ (p2 k) 10000:=rM.mono (by omega)
 have hqn:HQ (-p2 k) 10000:=@HQ.neg _ _ hq
 obtain⟨r1,r2,r3⟩:=row (-p2 k) 10000 hqn (by decide)
 have hsg:=fw ((bd b).E (-p2 k))
 have n1:=et (ofQ (p2 k)) (ofQ (p2 k)) (hx:=Vq.ofQ (h:=hq)) (hy:=Vq.ofQ (h:=hq)) (by decide) (by decide)
 rw[←j4]at n1
 have hq1:HQ (p2 (k+1)) 10000:=rM.mono (by omega)
 have n2:=Ed (ofQ (p2 (k+1))) (hx:=Vq.ofQ (h:=hq1)) (by decide)
 rw[←j4]at hd
 repeat refine aa rfl ?_
 refine ah 7 [19,20,21,22,23,24,25] (by decide +kernel) ?_
 repeat refine aa rfl ?_
 refine ak rfl rfl rfl r1 rfl rfl ?_
 repeat refine aa rfl ?_
 refine ak rfl rfl rfl r2 rfl rfl ?_
 repeat refine aa rfl ?_
 refine aP rfl rfl rfl r3 rfl rfl rfl ?_
 repeat refine aa rfl ?_
 refine ab rfl ?_ ?_<;>intro h
 ·have h1:=hsg.1 (of_decide_eq_true h)
  clear h
  rw[if_pos h1]at hd
  repeat refine aa rfl ?_
  refine ak rfl rfl rfl n1 rfl rfl ?_
  repeat refine aa rfl ?_
  refine ak rfl rfl rfl n2 rfl rfl ?_
  repeat refine aa rfl ?_
  have hk1:k+1<N:=by
   rcases Nat.lt_or_ge (k+1) N with h|h
   ·exact h
   ·rw[show j=0 by omega]at hd;cases hd
  have hd1:(bd b).dbl (-1) (N-(k+1)) (p2 (k+1))=some Wl:=by rw[show N-(k+1)=j by omega];exact hd
  exact⟨k+1,⟨hk1,hd1⟩,by omega,rfl,rfl,rfl,rfl,rfl,rfl,rfl,rfl,rfl,rfl,trivial⟩
 ·have h1:¬0<(bd b).E (-p2 k):=fun h2=>(of_decide_eq_false h) (hsg.2 h2)
  clear h
  rw[if_neg h1]at hd
  cases hd
  clear hWl hj r1 r2 r3 hsg n1 n2 hq1
  repeat refine aa rfl ?_
  refine ak rfl rfl rfl w1 rfl rfl ?_
  repeat refine aa rfl ?_
  refine am (fun k':Nat=>k'<N∧(bd b).dbl 1 (N-k') (p2 k')=some Wh) (fun k'=>[(1,.ptr 1 1 0 0),(2,.ptr 2 1 0 0),(3,.ptr 3 1 0 0),(4,.ptr 4 1 0 0),(5,.ptr 5 1 0 0)])
   (fun k'=>[(1,1,⟨29,6,[eB b],2⟩),(2,1,⟨33,8,[zN++zN],2⟩),(3,1,⟨26,4,[eR (ofQ (p2 k'))],2⟩),(4,1,⟨26,4,[eR (ofQ (-p2 k))],2⟩),(5,1,⟨26,4,[eR (ofQ (p2 k'))],2⟩)]) (fun k'=>N-k') 0
   ⟨by omega,hWh⟩ ⟨rfl,rfl,rfl,rfl,rfl,rfl,rfl,rfl,rfl,rfl,trivial⟩ ?_
  intro q s2 ⟨hk',hd⟩
  obtain⟨j,hj⟩:∃j,N-q=j+1:=⟨N-q-1,by omega⟩
  rw[hj,Bf]at hd
  have hqq:HQ (p2 q) 10000:=rM.mono (by omega)
  obtain⟨r1,r2,r3⟩:=row (p2 q) 10000 hqq (by decide)
  have hsg:=eE ((bd b).E (p2 q))
  have n1:=et (ofQ (p2 q)) (ofQ (p2 q)) (hx:=Vq.ofQ (h:=hqq)) (hy:=Vq.ofQ (h:=hqq)) (by decide) (by decide)
  rw[←j4]at n1
  rw[←j4]at hd
  repeat refine aa rfl ?_
  refine ah 7 [32,33,34,35,36,37,38] (by decide +kernel) ?_
  repeat refine aa rfl ?_
  refine ak rfl rfl rfl r1 rfl rfl ?_
  repeat refine aa rfl ?_
  refine ak rfl rfl rfl r2 rfl rfl ?_
  repeat refine aa rfl ?_
  refine aP rfl rfl rfl r3 rfl rfl rfl ?_
  repeat refine aa rfl ?_
  refine ab rfl ?_ ?_<;>intro h
  ·have h1:=hsg.1 (of_decide_eq_true h)
   clear h
   rw[if_pos h1]at hd
   repeat refine aa rfl ?_
   refine ak rfl rfl rfl n1 rfl rfl ?_
   repeat refine aa rfl ?_
   have hk1:q+1<N:=by
    rcases Nat.lt_or_ge (q+1) N with h|h
    ·exact h
    ·rw[show j=0 by omega]at hd;cases hd
   have hd1:(bd b).dbl 1 (N-(q+1)) (p2 (q+1))=some Wh:=by rw[show N-(q+1)=j by omega];exact hd
   exact⟨q+1,⟨hk1,hd1⟩,by omega,rfl,rfl,rfl,rfl,rfl,rfl,rfl,rfl,rfl,rfl,trivial⟩
  ·have h1:¬(bd b).E (p2 q)<0:=fun h2=>(of_decide_eq_false h) (hsg.2 h2)
   clear h
   rw[if_neg h1]at hd
   cases hd
   clear hWh hj r1 r2 r3 hsg n1
   have w0:=a8 0 ⟨by decide,by decide⟩
   rw[show(((0:Int)):Rat)=0 from rfl]at w0
   rw[Bq]at hx
   have hL:∀t∈[0,-p2 k,p2 q],HQ t 10000:=by
    intro t ht
    simp at ht
    rcases ht with rfl|rfl|rfl
    ·exact HQ.zero.mono (by decide)
    ·exact hqn
    ·exact hqq
   repeat refine aa rfl ?_
   refine bt [46] [3,4] (by decide +kernel) ?_
   repeat refine aa rfl ?_
   refine ak rfl rfl rfl w0 rfl rfl ?_
   repeat refine aa rfl ?_
   refine AT rfl rfl rfl (be 1 rfl rfl rfl rfl rfl rfl rfl rfl rfl rfl rfl (by repeat' constructor) rfl ⟨pW rfl,?_⟩)
   repeat refine aa rfl ?_
   have hrows:([0,-p2 k,p2 q]:List Rat).map (fun t=>eR (ofQ t))=[eR (ofQ 0),eR (ofQ (-p2 k)),eR (ofQ (p2 q))]:=rfl
   refine cg [(1,.ptr 1 1 0 0),(2,.ptr 2 1 0 0),(4,.ptr 4 1 0 0),(5,.ptr 5 1 0 0),(46,.als 46 ((s2.own 46).1+1) 0 3),(47,I 3),(48,I ((0:Nat):Int))]
    [(1,1,⟨29,6,[eB b],2⟩),(2,1,⟨33,8,[zN++zN],2⟩),(4,1,⟨26,4,[eR (ofQ (-p2 k))],2⟩),(5,1,⟨26,4,[eR (ofQ (p2 q))],2⟩),(46,(s2.own 46).1+1,⟨26,4,[eR (ofQ 0),eR (ofQ (-p2 k)),eR (ofQ (p2 q))],1⟩)]
    ⟨rfl,rfl,rfl,rfl,rfl,rfl,rfl,rfl,rfl,rfl,rfl,rfl,trivial⟩ ?_
   generalize (s2.own 46).1+1=g
   rw[←hrows]
   intro s3
   generalize hLL:([0,-p2 k,p2 q]:List Rat)=T3 at *
   have hT3:T3.length=3:=by rw[←hLL];rfl
   refine am (fun i:Nat=>i≤3∧(match f3 (bd b) (T3.drop i) with|some x=>some x|none=>(bd b).bis N (-p2 k) (p2 q))=some x) (fun i=>[(1,.ptr 1 1 0 0),(2,.ptr 2 1 0 0),(4,.ptr 4 1 0 0),(5,.ptr 5 1 0 0),(46,.als 46 g 0 3),(47,I 3),(48,I (i:Nat))])
    (fun i=>[(1,1,⟨29,6,[eB b],2⟩),(2,1,⟨33,8,[zN++zN],2⟩),(4,1,⟨26,4,[eR (ofQ (-p2 k))],2⟩),(5,1,⟨26,4,[eR (ofQ (p2 q))],2⟩),(46,g,⟨26,4,T3.map (fun t=>eR (ofQ t)),1⟩)]) (fun i=>3-i) 0
    ⟨Nat.zero_le _,hx⟩ ⟨rfl,rfl,rfl,rfl,rfl,rfl,rfl,rfl,rfl,rfl,rfl,rfl,trivial⟩ ?_
   intro i s4 ⟨hi,hF⟩
   repeat refine aa rfl ?_
   refine ab rfl ?_ ?_<;>intro h
   ·have hlt:i<3:=by have:=of_decide_eq_true h;omega
    clear h
    obtain⟨t,ht⟩:=aL (show i<T3.length by omega)
    have hrow:(T3.map (fun t=>eR (ofQ t)))[i]? = some (eR (ofQ t)):=by rw[List.getElem?_map,ht];rfl
    have htq:=hL t (List.mem_of_getElem? ht)
    have hw:=gz i
    obtain⟨r1,r2,r3⟩:=row t 10000 htq (by decide)
    have hgs:=mI hb htq (by decide) (hex t)
    have hdr:f3 (bd b) (T3.drop i)=match (bd b).at1 t with|some x=>some x|none=>f3 (bd b) (T3.drop (i+1)):=by
     obtain⟨hl1,h2⟩:=List.getElem?_eq_some_iff.1 ht
     rw[List.drop_eq_getElem_cons hl1,h2,f3]
    rw[hdr,Bd.at1,←iG hb (hex t)]at hF
    rw[←iG hb (hex t)]at hgs
    repeat refine aa rfl ?_
    refine sF rfl rfl rfl rfl rfl rfl rfl rfl rfl ?_
    rw[Int.toNat_natCast,Nat.zero_add i]
    refine bH rfl rfl (cW rfl rfl rfl hrow rfl) ?_
    repeat refine aa rfl ?_
    refine ak rfl rfl rfl r1 rfl rfl ?_
    repeat refine aa rfl ?_
    refine ak rfl rfl rfl r2 rfl rfl ?_
    repeat refine aa rfl ?_
    refine aP rfl rfl rfl r3 rfl rfl rfl ?_
    repeat refine aa rfl ?_
    have hs0:=fV ((bd b).E t)
    refine ab rfl ?_ ?_<;>intro h
    ·have h1:=hs0.1 (of_decide_eq_true h)
     clear h
     rw[if_pos h1]at hF
     simp only[Option.some.injEq]at hF
     subst hF
     repeat refine aa rfl ?_
     exact aF rfl rfl rfl
    ·have h1:¬(bd b).E t=0:=fun h2=>(of_decide_eq_false h) (hs0.2 h2)
     clear h
     rw[if_neg h1]at hF
     cases hgg:(bd b).guess (fx b t) t with
     |none =>
      rw[hgg]at hgs hF
      simp only at hF
      rw[Cv]at hgs
      repeat refine aa rfl ?_
      refine ak rfl rfl rfl hgs rfl rfl ?_
      repeat refine aa rfl ?_
      exact⟨i+1,⟨by omega,hF⟩,by omega,rfl,rfl,rfl,rfl,rfl,rfl,congrArg I hw,rfl,rfl,rfl,rfl,rfl,trivial⟩
     |some y =>
      rw[hgg]at hgs hF
      simp only[Option.some.injEq]at hF
      subst hF
      rw[Cv]at hgs
      repeat refine aa rfl ?_
      refine ak rfl rfl rfl hgs rfl rfl ?_
      repeat refine aa rfl ?_
      exact aF rfl rfl rfl
   ·have hie:i=3:=by have:=of_decide_eq_false h;omega
    clear h
    rw[hie,List.drop_eq_nil_of_le (by omega),f3]at hF
    simp only at hF
    have hd0:Dy N 0 (-p2 k):=⟨-((2^k:Nat):Int),by rw[p2];push_cast;grind,by rw[Int.natAbs_neg,Int.natAbs_natCast];exact Nat.pow_le_pow_right (by decide) (by omega)⟩
    have hd1:Dy N 0 (p2 q):=⟨((2^q:Nat):Int),by rw[p2];push_cast;grind,by rw[Int.natAbs_natCast];exact Nat.pow_le_pow_right (by decide) (by omega)⟩
    have w2:=a8 2 ⟨by decide,by decide⟩
    rw[show(((2:Int)):Rat)=2 from rfl]at w2
    have v2:Vq (ofQ 2) 2 4:=Vq.ofQ (h:=HQ.two)
    repeat refine aa rfl ?_
    refine am (fun u:Nat × Rat × Rat=>u.1≤N∧(bd b).bis (N-u.1) u.2.1 u.2.2=some x∧Dy N u.1 u.2.1∧Dy N u.1 u.2.2) (fun u=>[(1,.ptr 1 1 0 0),(2,.ptr 2 1 0 0),(4,.ptr 4 1 0 0),(5,.ptr 5 1 0 0)])
     (fun u=>[(1,1,⟨29,6,[eB b],2⟩),(2,1,⟨33,8,[zN++zN],2⟩),(4,1,⟨26,4,[eR (ofQ u.2.1)],2⟩),(5,1,⟨26,4,[eR (ofQ u.2.2)],2⟩)]) (fun u=>N-u.1) (0,-p2 k,p2 q)
     ⟨Nat.zero_le _,hF,hd0,hd1⟩ ⟨rfl,rfl,rfl,rfl,rfl,rfl,rfl,rfl,trivial⟩ ?_
    rintro⟨j,lo,hi⟩ s5 ⟨hj,hB,hlo,hhi⟩
    simp only at hj hB hlo hhi
    dsimp only
    obtain⟨n,hn⟩:∃n,N-j=n+1:=by
     rcases Nat.eq_zero_or_pos (N-j) with h|h
     ·rw[h]at hB;cases hB
     ·exact⟨N-j-1,by omega⟩
    rw[hn,Bd.bis]at hB
    have hm:=hlo.mid hhi
    have hl2:=hlo.up
    have hh2:=hhi.up
    have ql:=hlo.hq
    have qh:=hhi.hq
    have qm:=hm.hq
    have a1:=et (ofQ lo) (ofQ hi) (hx:=Vq.ofQ (h:=ql)) (hy:=Vq.ofQ (h:=qh)) (by omega) (by omega)
    have vs:Vq (ofQ (lo+hi)) (lo+hi) ((j+N)/16+1+((j+N)/16+1)+1):=Vq.ofQ (h:=@HQ.add _ _ _ _ ql qh)
    have a2:=rJ (ofQ (lo+hi)) (ofQ 2) (hx:=vs) (hy:=v2) (by omega) (by decide) (by decide)
    obtain⟨r1,r2,r3⟩:=row ((lo+hi)/2) _ qm (by omega)
    have hgs:=mI hb qm (by omega) (hex ((lo+hi)/2))
    rw[Bd.at1,←iG hb (hex ((lo+hi)/2))]at hB
    rw[←iG hb (hex ((lo+hi)/2))]at hgs
    generalize (lo+hi)/2=t at *
    have hs0:=fV ((bd b).E t)
    have hs1:=eE ((bd b).E t)
    repeat refine aa rfl ?_
    refine ak rfl rfl rfl a1 rfl rfl ?_
    repeat refine aa rfl ?_
    refine ak rfl rfl rfl w2 rfl rfl ?_
    repeat refine aa rfl ?_
    refine ak rfl rfl rfl a2 rfl rfl ?_
    repeat refine aa rfl ?_
    refine ak rfl rfl rfl r1 rfl rfl ?_
    repeat refine aa rfl ?_
    refine ak rfl rfl rfl r2 rfl rfl ?_
    repeat refine aa rfl ?_
    refine aP rfl rfl rfl r3 rfl rfl rfl ?_
    repeat refine aa rfl ?_
    refine ab rfl ?_ ?_<;>intro h
    ·have h1:=hs0.1 (of_decide_eq_true h)
     clear h
     rw[if_pos h1]at hB
     simp only[Option.some.injEq]at hB
     subst hB
     repeat refine aa rfl ?_
     exact aF rfl rfl rfl
    ·have h1:¬(bd b).E t=0:=fun h2=>(of_decide_eq_false h) (hs0.2 h2)
     clear h
     rw[if_neg h1]at hB
     cases hgg:(bd b).guess (fx b t) t with
     |none =>
      rw[hgg]at hgs hB
      simp only at hB
      rw[Cv]at hgs
      repeat refine aa rfl ?_
      refine ak rfl rfl rfl hgs rfl rfl ?_
      repeat refine aa rfl ?_
      refine ab rfl ?_ ?_<;>intro h
      ·have h2:=hs1.1 (of_decide_eq_true h)
       clear h
       rw[if_pos h2]at hB
       repeat refine aa rfl ?_
       exact⟨(j+1,t,hi),⟨by simp only;omega,by simp only;rw[show N-(j+1)=n by omega];exact hB,hm,hh2⟩,by simp only;omega,rfl,rfl,rfl,rfl,rfl,rfl,rfl,rfl,trivial⟩
      ·have h2:¬(bd b).E t<0:=fun h3=>(of_decide_eq_false h) (hs1.2 h3)
       clear h
       rw[if_neg h2]at hB
       repeat refine aa rfl ?_
       exact⟨(j+1,lo,t),⟨by simp only;omega,by simp only;rw[show N-(j+1)=n by omega];exact hB,hl2,hm⟩,by simp only;omega,rfl,rfl,rfl,rfl,rfl,rfl,rfl,rfl,trivial⟩
     |some y =>
      rw[hgg]at hgs hB
      simp only[Option.some.injEq]at hB
      subst hB
      rw[Cv]at hgs
      repeat refine aa rfl ?_
      refine ak rfl rfl rfl hgs rfl rfl ?_
      repeat refine aa rfl ?_
      exact aF rfl rfl rfl
theorem qP {l:List Int} {x:Int} (h:x∈l):x∈Lib.compact l:=by
 have key:∀n (hn:n<l.length),∃m,∃hm:m<l.length,l[m]=l[n]∧Lib.keeps l.toArray m=true:=by
  intro n
  induction n with
  |zero=>intro hn;exact⟨0,hn,rfl,by simp[Lib.keeps]⟩
  |succ n ih =>
   intro hn
   by_cases he:l[n+1]=l[n]
   ·obtain⟨m,hm,h1,h2⟩:=ih (by omega)
    exact⟨m,hm,h1.trans he.symm,h2⟩
   ·refine⟨n+1,hn,rfl,?_⟩
    rw[Lib.keeps,decide_eq_true_eq]
    right
    simp only[List.getElem!_toArray,Nat.add_sub_cancel]
    rw[getElem!_pos l (n+1) hn,getElem!_pos l n (by omega)]
    exact he
 obtain⟨n,hn,hx⟩:=List.mem_iff_getElem.1 h
 obtain⟨m,hm,h1,h2⟩:=key n hn
 rw[Lib.compact,Lib.compactUpTo]
 refine List.mem_map.2 ⟨m,List.mem_filter.2 ⟨List.mem_range.2 hm,h2⟩,?_⟩
 simp only[List.getElem!_toArray]
 rw[getElem!_pos l m hm,h1,hx]
theorem cy {l:List SR} {s:SR} (h:s∈l):s.x∈aW l:=by
 rw[aW]
 refine qP ?_
 have:s.x∈l.map (·.x):=List.mem_map.2 ⟨s,h,rfl⟩
 exact(List.mergeSort_perm _ _).mem_iff.2 this
def i7 (b:BR):Prop:=cT b bz=false∧∀r∈bI b.l,cT b r=false
theorem gd {b:BR} {A B:Rat}:fT b A B=true↔di b.l A B b.l.length∧ac (yT b.l A B) b.l.length<(b.w:Rat)*(A+B*b.a.val):=by
 rw[fT,@decide_eq_true_iff _ (Classical.propDecidable _)]
theorem tB {b:BR} {A B:Rat} (h:fT b A B=false):¬(di b.l A B b.l.length∧ac (yT b.l A B) b.l.length<(b.w:Rat)*(A+B*b.a.val)):=by
 intro h1
 rw[gd.2 h1]at h
 cases h
theorem iU:(ofQ ((1:Int):Rat)).val=1:=by rw[ofQ_val];rfl
theorem zero_val:(ofQ ((0:Int):Rat)).val=0:=by rw[ofQ_val];rfl
theorem j1:(ofQ ((-1:Int):Rat)).val = -1:=by rw[ofQ_val];rfl
theorem jv {b:BR} (h:i7 b):¬((∀i,i<(bd b).N→(bd b).lim i)∧ac (bd b).cap (bd b).N<(bd b).w):=by
 have h1:=tB h.1
 rw[show bz.z.val=1 from iU,show bz.t.val=0 from zero_val]at h1
 intro⟨h2,h3⟩
 refine h1 ⟨fun i hi _=>h2 i hi,?_⟩
 have e:ac (yT b.l 1 0) b.l.length=ac (bd b).cap (bd b).N:=aY fun i hi=>by
  rw[yT,if_pos (by grind)]
  show cI b.l i*(1+0*xI b.l i)=cI b.l i
  grind
 rw[e]
 have h4:ac (bd b).cap (bd b).N<(b.w:Rat):=h3
 grind
theorem rD {b:BR} (hb:b.Ok) (h:i7 b) (t:Rat):∃z,(bd b).Least z t :=
 ⟨_,k6 hb (Bd.enough (eG hb) t (jv h))⟩
theorem wC {b:BR} (h:i7 b):(bd b).NoTip:=by
 intro s hs i0 hi0 hl hlt
 have hx:=cy (aB (l:=b.l) hi0)
 have key:∀A B:Rat,(∀X:Rat,A+B*X=s*(X-(bd b).X i0))→fT b A B=true:=by
  intro A B hAB
  refine gd.2 ⟨fun i hi hp=>hl i hi (by rw[hAB]at hp;exact hp),?_⟩
  have e:ac (yT b.l A B) b.l.length=ac (fun i=>if 0<s*((bd b).X i-(bd b).X i0) then(bd b).cap i*(s*((bd b).X i-(bd b).X i0)) else 0) (bd b).N:=aY fun i hi=>by
   rw[yT,hAB];rfl
  rw[e,hAB]
  exact hlt
 rcases hs with rfl|rfl
 ·have hm:nS (b.l.getD i0 dS).x∈bI b.l∧iJ (b.l.getD i0 dS).x∈bI b.l:=⟨List.mem_append_right _ (List.mem_map.2 ⟨_,hx,rfl⟩),List.mem_append_left _ (List.mem_map.2 ⟨_,hx,rfl⟩)⟩
  have h1:=h.2 _ hm.2
  rw[cT,iJ]at h1
  simp only[ofQ_val]at h1
  rw[key _ _ (fun X=>by
   show((-(b.l.getD i0 dS).x:Int):Rat)+((1:Int):Rat)*X=1*(X-((b.l.getD i0 dS).x:Rat))
   push_cast;grind)]at h1
  cases h1
 ·have hm:nS (b.l.getD i0 dS).x∈bI b.l:=List.mem_append_right _ (List.mem_map.2 ⟨_,hx,rfl⟩)
  have h1:=h.2 _ hm
  rw[cT,nS]at h1
  simp only[ofQ_val]at h1
  rw[key _ _ (fun X=>by
   show((b.l.getD i0 dS).x:Rat)+((-1:Int):Rat)*X = -1*(X-((b.l.getD i0 dS).x:Rat))
   push_cast;grind)]at h1
  cases h1
theorem yP {b:BR} (hb:b.Ok) {z t:Rat} {x:Rat × Rat} (h:(bd b).guess z t=some x):HQ x.1 20000∧HQ x.2 20000:=by
 have key:∀p,(bd b).Inc p z t→(bd b).tryP z t p=some x→HQ x.1 20000∧HQ x.2 20000:=by
  intro p hp h
  rw[Bd.tryP]at h
  split at h
  ·cases h
  ·rename_i d hd
   split at h
   ·cases h
    exact uD hb hp hd
   ·cases h
 rw[Bd.guess]at h
 split at h
 ·rename_i y hy
  cases h
  exact key _ (Cx hb z t) hy
 ·exact key _ (Cw hb z t) h
theorem pj {b:BR} (hb:b.Ok) {t:Rat} {m:Nat} (ht:HQ t m) (hm:m≤19000) (hex:∃z,(bd b).w≤(bd b).F z t) {x:Rat × Rat} (h:(bd b).at1 t=some x):HQ x.1 24000∧HQ x.2 20000:=by
 rw[Bd.at1]at h
 split at h
 ·cases h
  rw[←iG hb hex]
  exact⟨(t8 hb ht hex).mono (by omega),ht.mono (by omega)⟩
 ·have:=yP hb h
  exact⟨this.1.mono (by omega),this.2⟩
theorem CZ {b:BR} (hb:b.Ok) (hex:∀t,∃z,(bd b).w≤(bd b).F z t) {N:Nat} (hN:N≤150000) {x:Rat × Rat}:∀(n j:Nat) (lo hi:Rat),n+j≤N→Dy N j lo→Dy N j hi→(bd b).bis n lo hi=some x→HQ x.1 24000∧HQ x.2 20000:=by
 intro n
 induction n with
 |zero=>intro j lo hi _ _ _ h;cases h
 |succ n ih =>
  intro j lo hi hj hlo hhi h
  have hm:=hlo.mid hhi
  rw[Bd.bis]at h
  split at h
  ·rename_i y hy
   cases h
   exact pj hb hm.hq (by omega) (hex _) hy
  ·split at h
   ·exact ih (j+1) _ _ (by omega) hm hhi.up h
   ·exact ih (j+1) _ _ (by omega) hlo.up hm h
theorem uq (b:Bd) (s:Rat):∀(n k:Nat) (W:Rat),b.dbl s n (p2 k)=some W→∃m,m<n+k∧W=p2 m:=by
 intro n
 induction n with
 |zero=>intro k W h;cases h
 |succ n ih =>
  intro k W h
  rw[Bd.dbl]at h
  split at h
  ·rw[←j4]at h
   obtain⟨m,h1,h2⟩:=ih (k+1) W h
   exact⟨m,by omega,h2⟩
  ·cases h
   exact⟨k,by omega,rfl⟩
theorem D_ {b:BR} (hb:b.Ok) (hex:∀t,∃z,(bd b).w≤(bd b).F z t) {x:Rat × Rat} (h:(bd b).eqQ 150000=some x):HQ x.1 24000∧HQ x.2 20000:=by
 generalize hN:(150000:Nat)=N at h
 rw[Bd.eqQ]at h
 split at h
 ·rename_i wl wh h1 h2
  obtain⟨k,hk,rfl⟩:=uq _ _ _ 0 _ (show(bd b).dbl (-1) N (p2 0)=some wl from h1)
  obtain⟨q,hq,rfl⟩:=uq _ _ _ 0 _ (show(bd b).dbl 1 N (p2 0)=some wh from h2)
  have hqk:HQ (p2 k) 10000:=rM.mono (by omega)
  have hqq:HQ (p2 q) 10000:=rM.mono (by omega)
  have hqn:HQ (-p2 k) 10000:=@HQ.neg _ _ hqk
  split at h
  ·rename_i y hy
   cases h
   rw[Bd.fst3]at hy
   split at hy
   ·rename_i z hz
    cases hy
    exact pj hb HQ.zero (by decide) (hex _) hz
   ·split at hy
    ·rename_i z hz
     cases hy
     exact pj hb hqn (by decide) (hex _) hz
    ·exact pj hb hqq (by decide) (hex _) hy
  ·refine CZ hb hex (N:=N) (show N≤150000 by omega) N 0 _ _ (by omega) ?_ ?_ h
   ·exact⟨-((2^k:Nat):Int),by rw[p2];push_cast;grind,by rw[Int.natAbs_neg,Int.natAbs_natCast];exact Nat.pow_le_pow_right (by decide) (by omega)⟩
   ·exact⟨((2^q:Nat):Int),by rw[p2];push_cast;grind,by rw[Int.natAbs_natCast];exact Nat.pow_le_pow_right (by decide) (by omega)⟩
 ·cases h
theorem Cy (n:Nat):65536^n=2^(16*n):=by rw[show(65536:Nat)=2^16 by decide,←Nat.pow_mul]
theorem D9 {b:BR} (hb:b.Ok) (hs:(bd b).Sz) (h:i7 b):∃x,(bd b).eqQ 150000=some x∧(bd b).Bal x.1 x.2∧HQ x.1 24000∧HQ x.2 20000:=by
 have hex:∀t,∃z,(bd b).w≤(bd b).F z t:=fun t=>Bd.enough (eG hb) t (jv h)
 obtain⟨m,hm⟩:∃m,m=3000:=⟨_,rfl⟩
 have hK:65536^3000=2^(16*m):=by rw[←hm];exact Cy m
 have hL:65536^(3000+3000+1)=2^(16*(m+m+1)):=by rw[←hm];exact Cy (m+m+1)
 obtain⟨x,h1,h2⟩:=Bd.eq_some (eG hb) hs (rD hb h) (wC h) (n:=150000) hK hL (by omega) (by omega)
 exact⟨x,h1,h2,D_ hb hex h1⟩
theorem f9 {b:BR} (hb:b.Ok) {z t A B:Rat}:dM b.l z t A B=true↔(bd b).Free z t A B:=by
 have hcr:=(eG hb).crv
 rw[dM,List.all_eq_true]
 constructor
 ·intro h i hi
  have h1:=h _ (aB (l:=b.l) hi)
  rw[m_,decide_eq_true_eq]at h1
  refine⟨fun hp p hpr=>?_,fun hp p hpl=>?_⟩
  ·have e:p=(bd b).pR z t i:=InR.uniq (hcr i hi) hpr tt
   subst e
   rcases Classical.em (rV (b.l.getD i dS) z t=0) with g|g
   ·exact g
   ·exact absurd (.inl ⟨hp,g⟩) h1
  ·have e:p=(bd b).pL z t i:=InL.uniq (hcr i hi) hpl ng
   subst e
   rcases Classical.em (lV (b.l.getD i dS) z t=0) with g|g
   ·exact g
   ·exact absurd (.inr ⟨hp,g⟩) h1
 ·intro h s hs
  obtain⟨i,hi,rfl⟩:=List.mem_iff_getElem.1 hs
  have e:b.l.getD i dS=b.l[i]:=by rw[List.getD_eq_getElem?_getD,List.getElem?_eq_getElem hi];rfl
  obtain⟨h1,h2⟩:=h i hi
  rw[m_,decide_eq_true_eq,←e]
  rintro(⟨g1,g2⟩|⟨g1,g2⟩)
  ·exact g2 (h1 g1 _ tt)
  ·exact g2 (h2 g1 _ ng)
theorem te {b:BR} (hb:b.Ok) {z t:Rat}:cw b z t=true↔∃A B,(bd b).Dir A B∧(bd b).Free z t A B:=by
 rw[cw,List.any_eq_true]
 constructor
 ·rintro⟨d,hd,hf⟩
  rw[f9 hb]at hf
  refine⟨_,_,?_,hf⟩
  rw[dX,bI,List.mem_append,List.mem_append]at hd
  rcases hd with(hd|hd)|hd
  ·obtain⟨x,hx,rfl⟩:=List.mem_map.1 hd
   obtain⟨s,hs,rfl⟩:=d7 hx
   obtain⟨i,hi,rfl⟩:=List.mem_iff_getElem.1 hs
   have e:b.l.getD i dS=b.l[i]:=by rw[List.getD_eq_getElem?_getD,List.getElem?_eq_getElem hi];rfl
   refine .inr (.inr ⟨i,hi,.inl ⟨?_,iU⟩⟩)
   rw[iJ,ofQ_val]
   show _ = -((b.l.getD i dS).x:Rat)
   rw[e];push_cast;rfl
  ·obtain⟨x,hx,rfl⟩:=List.mem_map.1 hd
   obtain⟨s,hs,rfl⟩:=d7 hx
   obtain⟨i,hi,rfl⟩:=List.mem_iff_getElem.1 hs
   have e:b.l.getD i dS=b.l[i]:=by rw[List.getD_eq_getElem?_getD,List.getElem?_eq_getElem hi];rfl
   refine .inr (.inr ⟨i,hi,.inr ⟨?_,j1⟩⟩)
   rw[nS,ofQ_val]
   show _=((b.l.getD i dS).x:Rat)
   rw[e]
  ·simp at hd
   rcases hd with rfl|rfl
   ·exact .inl ⟨iU,zero_val⟩
   ·exact .inr (.inl ⟨j1,zero_val⟩)
 ·rintro⟨A,B,hd,hf⟩
  rcases hd with⟨rfl,rfl⟩|⟨rfl,rfl⟩|⟨i,hi,⟨rfl,rfl⟩|⟨rfl,rfl⟩⟩
  ·refine⟨bz,by simp[dX],?_⟩
   rw[f9 hb,show bz.z.val=1 from iU,show bz.t.val=0 from zero_val];exact hf
  ·refine⟨oW,by simp[dX],?_⟩
   rw[f9 hb,show oW.z.val = -1 from j1,show oW.t.val=0 from zero_val];exact hf
  ·have hx:=cy (aB (l:=b.l) hi)
   refine⟨iJ (b.l.getD i dS).x,?_,?_⟩
   ·rw[dX,bI]
    exact List.mem_append_left _ (List.mem_append_left _ (List.mem_map.2 ⟨_,hx,rfl⟩))
   ·rw[f9 hb,iJ,iU,ofQ_val]
    have e:(((-(b.l.getD i dS).x:Int)):Rat) = -(bd b).X i:=by
     show _ = -((b.l.getD i dS).x:Rat)
     push_cast;rfl
    rw[e];exact hf
  ·have hx:=cy (aB (l:=b.l) hi)
   refine⟨nS (b.l.getD i dS).x,?_,?_⟩
   ·rw[dX,bI]
    exact List.mem_append_left _ (List.mem_append_right _ (List.mem_map.2 ⟨_,hx,rfl⟩))
   ·rw[f9 hb,nS,j1,ofQ_val];exact hf
theorem gL {b:BR} (hb:b.Ok) {z t:Rat} (h:(bd b).Bal z t):cw b z t=false↔∀z' t',(bd b).Bal z' t'→z'=z∧t'=t:=by
 have h1:=te (z:=z) (t:=t) hb
 rw[Bd.loose_iff (eG hb) h]at h1
 constructor
 ·intro h2 z' t' h3
  rcases Classical.em (z'=z) with g|g
  ·rcases Classical.em (t'=t) with g2|g2
   ·exact⟨g,g2⟩
   ·rw[h1.2 ⟨z',t',h3,.inr g2⟩]at h2;cases h2
  ·rw[h1.2 ⟨z',t',h3,.inl g⟩]at h2;cases h2
 ·intro h2
  cases hl:cw b z t with
  |false=>rfl
  |true =>
   obtain⟨z',t',h3,h4⟩:=h1.1 hl
   obtain⟨rfl,rfl⟩:=h2 z' t' h3
   simp at h4
theorem po {b:BR} (hb:b.Ok) {z t:Rat} (h:(bd b).Bal z t) (A B:Rat):fT b A B=false:=by
 cases hr:fT b A B with
 |false=>rfl
 |true =>
  obtain⟨h1,h2⟩:=gd.1 hr
  have h3:=Bd.exclude (eG hb) h (A:=A) (B:=B) h1
  have e:ac (yT b.l A B) b.l.length=ac (fun i=>if 0<A+B*(bd b).X i then(bd b).cap i*(A+B*(bd b).X i) else 0) (bd b).N:=rfl
  rw[←e]at h3
  have h4:(b.w:Rat)*(A+B*b.a.val)≤ac (yT b.l A B) b.l.length:=h3
  grind
theorem vH {b:BR} (hb:b.Ok) {z t:Rat} (h:(bd b).Bal z t):i7 b:=⟨po hb h _ _,fun _ _=>po hb h _ _⟩
def dT (x:Int):SR:=⟨x,RR.zero,⟨[0],[ofQ ((2:Int):Rat)]⟩⟩
def jL (x:Int):SR:=⟨x,RR.zero,⟨[0,10],[ofQ ((5:Int):Rat),ofQ ((0:Int):Rat)]⟩⟩
def b1:BR:=⟨40,ofQ ((25:Int):Rat),[dT 0,dT 100]⟩
def b2:BR:=⟨80,ofQ ((75:Int):Rat),[jL 0,jL 100]⟩
theorem pP {z:Int} (h:i64 z):(ofQ (z:Rat)).sz 12:=⟨Nat.le_trans (vI h).sz.1 (by decide),Nat.le_trans (vI h).sz.2 (by decide)⟩
theorem vi:RR.zero.sz 12:=⟨Nat.zero_le _,Nat.zero_le _⟩
theorem B9 {x:Int} (hx:i64 x):(dT x).Lim:=by
 refine⟨hx,vi,⟨fun z hz=>?_,fun m hm=>?_,show 1≤1000000000 by decide,show 1≤1000000000 by decide⟩⟩
 ·simp[dT]at hz;subst hz;exact⟨by decide,by decide⟩
 ·simp only[dT,List.mem_singleton]at hm;subst hm;exact pP ⟨by decide,by decide⟩
theorem BH {x:Int} (hx:i64 x):(jL x).Lim:=by
 refine⟨hx,vi,⟨fun z hz=>?_,fun m hm=>?_,show 2≤1000000000 by decide,show 2≤1000000000 by decide⟩⟩
 ·simp[jL]at hz;rcases hz with rfl|rfl<;>exact⟨by decide,by decide⟩
 ·simp only[jL,List.mem_cons,List.not_mem_nil,or_false]at hm
  rcases hm with rfl|rfl<;>exact pP ⟨by decide,by decide⟩
theorem o5 (x:Int):br (dT x).k=0:=by
 have h:dD (dT x).k 0=0:=by
  rw[dD,if_neg,if_neg (by omega)]
  simp only[dT,List.getD_cons_zero,ofQ_val]
  decide
 rw[br,if_neg (show ¬40<(dT x).k.S.length by simp[dT]),if_neg (show ¬(dT x).k.M.length≠(dT x).k.S.length by simp[dT])]
 show cE (dT x).k 0 1=0
 rw[cE,if_pos h,cE]
theorem oH (x:Int):br (jL x).k=0:=by
 have h:dD (jL x).k 0=0:=by
  rw[dD,if_neg,if_neg (by omega)]
  simp only[jL,List.getD_cons_zero,ofQ_val]
  decide
 have h1:dD (jL x).k 1=0:=by
  rw[dD,if_neg,if_neg]
  ·simp[jL]
  ·simp only[jL,List.getD_cons_zero,List.getD_cons_succ,ofQ_val]
   decide
 rw[br,if_neg (show ¬40<(jL x).k.S.length by simp[jL]),if_neg (show ¬(jL x).k.M.length≠(jL x).k.S.length by simp[jL])]
 show cE (jL x).k 0 2=0
 rw[cE,if_pos h,cE,if_pos h1,cE]
theorem iY {s:SR} (hx : -1000000≤s.x∧s.x≤1000000) (hc:s.c=RR.zero) (hk:br s.k=0):ib s=0:=by
 rw[ib,if_neg,hk]
 rw[hc,RR.zero_val]
 rintro(h|h)
 ·omega
 ·revert h;decide
theorem xZ:bq b1=0:=by
 rw[bq,if_neg]
 ·rw[bD,if_neg (by decide)]
  show ct ib [dT 0,dT 100]=0
  rw[ct,if_pos (iY ⟨by decide,by decide⟩ rfl (o5 _)),ct,if_pos (iY ⟨by decide,by decide⟩ rfl (o5 _)),ct]
 ·simp only[b1,ofQ_val]
  decide
theorem x9:bq b2=0:=by
 rw[bq,if_neg]
 ·rw[bD,if_neg (by decide)]
  show ct ib [jL 0,jL 100]=0
  rw[ct,if_pos (iY ⟨by decide,by decide⟩ rfl (oH _)),ct,if_pos (iY ⟨by decide,by decide⟩ rfl (oH _)),ct]
 ·simp only[b2,ofQ_val]
  decide
theorem mr:b1.Ok:=by
 refine⟨⟨⟨by decide,by decide⟩,pP ⟨by decide,by decide⟩,fun s hs=>?_,by decide⟩,xZ,by decide,fun s hs=>?_⟩
 ·simp only[b1,List.mem_cons,List.not_mem_nil,or_false]at hs
  rcases hs with rfl|rfl<;>exact B9 ⟨by decide,by decide⟩
 ·simp only[b1,List.mem_cons,List.not_mem_nil,or_false]at hs
  rcases hs with rfl|rfl<;>decide
theorem Cr:b2.Ok:=by
 refine⟨⟨⟨by decide,by decide⟩,pP ⟨by decide,by decide⟩,fun s hs=>?_,by decide⟩,x9,by decide,fun s hs=>?_⟩
 ·simp only[b2,List.mem_cons,List.not_mem_nil,or_false]at hs
  rcases hs with rfl|rfl<;>exact BH ⟨by decide,by decide⟩
 ·simp only[b2,List.mem_cons,List.not_mem_nil,or_false]at hs
  rcases hs with rfl|rfl<;>decide
theorem q8 (z:Int) (h:i64 z):hq (z:Rat) 4:=(@HQ.int z (aE h.1 h.2)).ok
theorem sk (x:Int) (z t:Rat):fQ (dT x) z t=if z+t*(x:Rat)<0 then 0 else 2*(z+t*(x:Rat)):=by
 rw[fQ,b7]
 show ac (cX (dT x).k.s (dT x).k.m (yQ (dT x) z t)) 1=_
 rw[ac,ac,cX,yQ,aI]
 show 0+(if RR.zero.val+(z+t*(x:Rat))-((0:Int):Rat)<0 then 0 else((ofQ ((2:Int):Rat)).val-0)*(RR.zero.val+(z+t*(x:Rat))-((0:Int):Rat)))=_
 rw[RR.zero_val,ofQ_val,show((0:Int):Rat)=0 from rfl,show((2:Int):Rat)=2 from rfl]
 grind
theorem CU {z t:Rat}:(bd b1).Bal z t↔z=15∧t = -1/10:=by
 have e:(bd b1).Bal z t↔((0+fQ (dT 0) z t)+fQ (dT 100) z t=((40:Int):Rat)∧(0+fQ (dT 0) z t*((0:Int):Rat))+fQ (dT 100) z t*((100:Int):Rat)=((40:Int):Rat)*(ofQ ((25:Int):Rat)).val):=Iff.rfl
 rw[e,sk,sk,ofQ_val,show((0:Int):Rat)=0 from rfl,show((100:Int):Rat)=100 from rfl,show((40:Int):Rat)=40 from rfl,show((25:Int):Rat)=25 from rfl]
 constructor
 ·rintro⟨h1,h2⟩
  grind
 ·rintro⟨rfl,rfl⟩
  constructor<;>grind
theorem vA:FL b1.l 15 (-1/10)=[ofQ 30,ofQ 10]:=by
 show [ofQ (fQ (dT 0) 15 (-1/10)),ofQ (fQ (dT 100) 15 (-1/10))]=_
 rw[sk,sk,show((0:Int):Rat)=0 from rfl,show((100:Int):Rat)=100 from rfl]
 congr 2
 ·grind
 ·congr 2
  grind
theorem vG:aW b2.l=[0,100]:=by
 rw[aW]
 have:cB (b2.l.map (·.x))=[0,100]:=List.mergeSort_of_pairwise (by decide)
 rw[this]
 decide
theorem zB (x:Int):kI (jL x).k.S.length (jL x).k.s (jL x).k.m=50:=by
 show gc (jL x).k.s (jL x).k.m 2*(-1)=50
 rw[gc,ac,ac,ac,aI,aI]
 show(0+((ofQ ((5:Int):Rat)).val-0)*((0:Int):Rat)+((ofQ ((0:Int):Rat)).val-(ofQ ((5:Int):Rat)).val)*((10:Int):Rat))*(-1)=50
 rw[ofQ_val,ofQ_val]
 decide +kernel
theorem zC (x:Int):aI (jL x).k.m (jL x).k.S.length=0:=by
 show(ofQ ((0:Int):Rat)).val=0
 rw[ofQ_val];rfl
theorem CW {A B:Rat}:di b2.l A B b2.l.length:=by
 intro i hi _
 rcases i with _ | _ | i
 ·exact zC 0
 ·exact zC 100
 ·have:i+1+1<2:=hi
  omega
theorem x_ (A B:Rat):ac (yT b2.l A B) b2.l.length=0+(if 0<A+B*0 then 50*(A+B*0) else 0)+(if 0<A+B*100 then 50*(A+B*100) else 0):=by
 show ac (yT b2.l A B) 2=_
 rw[ac,ac,ac,yT,yT]
 have e0:xI b2.l 0=0:=rfl
 have e1:xI b2.l 1=100:=rfl
 have c0:cI b2.l 0=50:=zB 0
 have c1:cI b2.l 1=50:=zB 100
 rw[e0,e1,c0,c1]
theorem DS:cT b2 (iJ 0)=true:=by
 refine gd.2 ⟨CW,?_⟩
 rw[x_]
 simp only[iJ,ofQ_val]
 show(0:Rat)+(if 0<(((-0:Int)):Rat)+((1:Int):Rat)*0 then 50*((((-0:Int)):Rat)+((1:Int):Rat)*0) else 0)+(if 0<(((-0:Int)):Rat)+((1:Int):Rat)*100 then 50*((((-0:Int)):Rat)+((1:Int):Rat)*100) else 0)<((80:Int):Rat)*((((-0:Int)):Rat)+((1:Int):Rat)*(ofQ ((75:Int):Rat)).val)
 rw[ofQ_val]
 decide +kernel
theorem sJ:cA b2 = .tup [.agg (eA (iJ 0)),I 13]:=by
 have h1:cT b2 bz=false:=by
  cases h:cT b2 bz with
  |false=>rfl
  |true =>
   obtain⟨_,h2⟩:=gd.1 h
   rw[x_,show bz.z.val=1 from iU,show bz.t.val=0 from zero_val]at h2
   have h3:((80:Int):Rat)*(1+0*(ofQ ((75:Int):Rat)).val)=80:=by rw[ofQ_val];decide +kernel
   have h2:(0:Rat)+(if 0<(1:Rat)+0*0 then 50*(1+0*0) else 0)+(if 0<(1:Rat)+0*100 then 50*(1+0*100) else 0)<((80:Int):Rat)*(1+0*(ofQ ((75:Int):Rat)).val):=h2
   rw[h3]at h2
   grind
 have h2:=DS
 rw[cA,if_neg (by rw[h1];decide),bI,vG]
 show(match (iJ 0::_).find? (cT b2) with|some r=>PV.tup [.agg (eA r),I 13]|none => .tup [.agg (zN++zN),I 0])=_
 rw[List.find?_cons,h2]
def xQ (s:SR):Prop:=i64 s.x∧∀z∈s.k.S,i64 z
def qC (l:List SR):Prop:=∀s∈l,xQ s
def tR (st:Nat) (s:SR):Prop:=s.k.S.length≤st∧s.k.M.length≤st+1∧s.c.sz 3∧∀m∈s.k.M,m.sz 3
def kH (l:List SR) (most st:Nat):Prop:=l.length≤most∧∀s∈l,tR st s
theorem RR.sz.mono {x:RR} {n m:Nat} (h:x.sz n) (hm:n≤m):x.sz m:=⟨Nat.le_trans h.1 hm,Nat.le_trans h.2 hm⟩
theorem nz {l:List SR} {most st:Nat} (hd:qC l) (h:kH l most st) (hm:most≤1000) (hst:st≤1000):eJ l:=by
 refine⟨fun s hs=>?_,by have:=h.1;omega⟩
 obtain⟨h1,h2,h3,h4⟩:=h.2 s hs
 exact⟨(hd s hs).1,h3.mono (by decide),⟨(hd s hs).2,fun m hm=>(h4 m hm).mono (by decide),by omega,by omega⟩⟩
theorem xf {l:List SR} {most st:Nat} (h:kH l most st) (hm:most≤12) (hst:st≤8):kF l :=
 ⟨Nat.le_trans h.1 hm,fun s hs=>Nat.le_trans (h.2 s hs).1 hst⟩
theorem Ah {b:BR} {most st:Nat} (hw:i64 b.w) (hd:qC b.l) (ha:b.a.sz 3) (h:kH b.l most st) (hm:most≤12) (hst:st≤8) (hc:bq b=0):b.Ok :=
 ⟨⟨hw,ha.mono (by decide),nz hd h (by omega) (by omega)⟩,hc,xf h hm hst⟩
theorem AC {x:RR} (h:x.sz 3):hq x.val 4:=SZ.hq (n:=3) ⟨h⟩
theorem Ai {b:BR} {most st:Nat} (hw:i64 b.w) (hd:qC b.l) (ha:b.a.sz 3) (h:kH b.l most st) (hm:most≤10) (hst:st≤5) (hc:bq b=0):(bd b).Sz:=by
 refine⟨Nat.le_trans h.1 hm,fun i hi=>?_,fun i hi=>?_,fun i hi=>?_,fun i hi k hk=>?_,fun i hi k hk=>?_,q8 _ hw,eO (AC ha) (by decide)⟩
 ·exact Nat.le_trans (h.2 _ (aB hi)).1 hst
 ·exact q8 _ (hd _ (aB hi)).1
 ·exact eO (AC (h.2 _ (aB hi)).2.2.1) (by decide)
 ·exact q8 _ ((hd _ (aB hi)).2 _ (List.mem_of_getElem? (aC (d:=(0:Int)) hk)))
 ·have hcu:=bu (jN hc).2.2 _ (aB (l:=b.l) hi)
  obtain⟨-,hSM,-,-⟩:=bP hcu
  have hk:k<(b.l.getD i dS).k.S.length:=hk
  exact AC ((h.2 _ (aB hi)).2.2.2 _ (List.mem_of_getElem? (aC (d:=RR.zero) (by omega))))
section
variable {α:Type}
variable {key:α→Rat}
end
section
variable {α:Type} {key:α→Rat}
end
variable {α:Type} {key:α→Rat}
end Go.Pv
set_option maxHeartbeats 2000000
namespace Go.Pv
attribute [local irreducible] PWP POps PQuiet PSem ax ao aj ai
open Go.Proofs
theorem rS {P:Program} {L:Lay} {Q:Exit→St→Prop} {s:St} {ι:Type} {x y:Code} (X:ι→Prop) (regs:ι→List (Nat × PV)) (owns:ι→List (Nat × Nat × Cont)) (h1:PWP P L x (ax (fun s'=>∃i,X i∧Fit s' (regs i) (owns i)) Q) s) (h2:∀i,X i→∀s:St,PWP P L y Q (s.over (regs i) (owns i))):PWP P L x (ax (fun s'=>PWP P L y Q s') Q) s:=by
 refine PWP.mono ?_ _ h1
 intro e s' h
 unfold ax at h ⊢
 cases e
 case normal =>
  obtain⟨i,hX,hF⟩:∃i,X i∧Fit s' (regs i) (owns i):=h
  have:=h2 i hX s'
  rwa [Fit.over hF]at this
 all_goals exact h
def zA:AR:=⟨RR.zero,RR.zero⟩
def sW (a:AR) (F:List RR):List PV:=eA a++[.sl (F.map eR)]
def zS:List PV:=zN++zN++[.nil]
theorem WeakL.append {a b c d:List PV} (h1:WeakL a b) (h2:WeakL c d):WeakL (a++c) (b++d):=by
 induction h1 with
 |nil=>exact h2
 |cons h _ ih=>exact .cons h ih
theorem fM:WeakL (zN++zN) (eA zA):=gU.append gU
theorem fN:WeakL zS (sW zA []):=fM.append (.cons .nil .nil)
structure SQ where
 a:AR
 F:List RR
 r:AR
 e:Int
def SQ.pv (q:SQ):PV := .tup [.agg (sW q.a q.F),.agg (eA q.r),I q.e]
noncomputable def g_ (b:BR):Rat × Rat:=((bd b).eqQ 150000).getD (0,0)
noncomputable def dR (b:BR):SQ :=
 if bq b=0 then
  if cT b bz=true then⟨zA,[],bz,12⟩
  else match (bI b.l).find? (cT b) with
   |some r=>⟨zA,[],r,13⟩
   |none=>if cw b (g_ b).1 (g_ b).2=true then⟨zA,[],zA,14⟩ else⟨⟨ofQ (g_ b).1,ofQ (g_ b).2⟩,FL b.l (g_ b).1 (g_ b).2,zA,0⟩
 else⟨zA,[],zA,bq b⟩
noncomputable def cK (b:BR):List RR × Int :=
 if bq b=0 then
  if cT b bz=true then([],12)
  else match (bI b.l).find? (cT b) with
   |some _=>([],13)
   |none=>(FL b.l (g_ b).1 (g_ b).2,0)
 else([],bq b)
def BR.Good (b:BR):Prop:=b.Lim∧(bq b=0→b.Ok∧(bd b).Sz∧∀t,(i9 b.l t).length≤40)
theorem im {b:BR} (hb:b.Ok) (hs:(bd b).Sz) (h:i7 b):(bd b).eqQ 150000=some (g_ b)∧(bd b).Bal (g_ b).1 (g_ b).2∧HQ (g_ b).1 24000∧HQ (g_ b).2 20000:=by
 obtain⟨x,h1,h2,h3⟩:=D9 hb hs h
 have e:g_ b=x:=by rw[g_,h1];rfl
 rw[e]
 exact⟨h1,h2,h3⟩
theorem iO {b:BR} (h1:¬cT b bz=true) (h2:(bI b.l).find? (cT b)=none):i7 b:=by
 refine⟨by simpa using h1,fun r hr=>?_⟩
 have:=List.find?_eq_none.1 h2 r hr
 simpa using this
set_option maxRecDepth 20000 in
theorem xw (b:BR) (hb:b.Lim) (he:bq b≠0):Ret Tryz.prog .shared 9 [.agg (eB b)] (.tup [.agg zS,.agg (zN++zN),I (bq b)]):=by
 have h1:=b9 b hb
 generalize bq b=e at *
 refine Ret.of_pwp layOk mixed Go.Proofs.Tryz.func9 rfl (by decide) rfl rfl ?_
 repeat refine aa rfl ?_
 refine aP rfl rfl rfl h1 rfl rfl rfl ?_
 repeat refine aa rfl ?_
 refine ab rfl ?_ ?_<;>intro h
 ·clear h
  repeat refine aa rfl ?_
  exact aF rfl rfl rfl
 ·exfalso
  simp at h
  exact he h
set_option maxRecDepth 20000 in
theorem jJ (b:BR) (hb:b.Lim) (h0:bq b=0) (r:AR) (e:Int) (he:e≠0) (h93:Ret Tryz.prog .shared 44 [.agg (eB b)] (.tup [.agg (eA r),I e])):Ret Tryz.prog .shared 9 [.agg (eB b)] (.tup [.agg zS,.agg (eA r),I e]):=by
 have h1:=b9 b hb
 rw[h0]at h1
 clear h0 hb
 refine Ret.of_pwp layOk mixed Go.Proofs.Tryz.func9 rfl (by decide) rfl rfl ?_
 repeat refine aa rfl ?_
 refine aP rfl rfl rfl h1 rfl rfl rfl ?_
 repeat refine aa rfl ?_
 refine ak rfl rfl rfl h93 rfl rfl ?_
 repeat refine aa rfl ?_
 refine ab rfl ?_ ?_<;>intro h
 ·clear h
  repeat refine aa rfl ?_
  refine bt [2,3] [3,4] (by decide +kernel) ?_
  repeat refine aa rfl ?_
  repeat refine aa rfl ?_
  exact aF rfl rfl rfl
 ·exfalso
  simp at h
  exact he h
set_option maxRecDepth 20000 in
theorem sj (b:BR) (hb:b.Lim) (h0:bq b=0) (h93:Ret Tryz.prog .shared 44 [.agg (eB b)] (.tup [.agg (zN++zN),I 0])) (a:AR) (h120:Ret Tryz.prog .shared 45 [.agg (eB b)] (.agg (eA a)))
  (h121:Ret Tryz.prog .shared 46 [.agg (eB b),.agg (eA a)] (.bool true)):Ret Tryz.prog .shared 9 [.agg (eB b)] (.tup [.agg zS,.agg (zN++zN),I 14]):=by
 have h1:=b9 b hb
 rw[h0]at h1
 clear h0 hb
 refine Ret.of_pwp layOk mixed Go.Proofs.Tryz.func9 rfl (by decide) rfl rfl ?_
 repeat refine aa rfl ?_
 refine aP rfl rfl rfl h1 rfl rfl rfl ?_
 repeat refine aa rfl ?_
 refine ak rfl rfl rfl h93 rfl rfl ?_
 repeat refine aa rfl ?_
 refine ak rfl rfl rfl h120 rfl rfl ?_
 repeat refine aa rfl ?_
 refine aP rfl rfl rfl h121 rfl rfl rfl ?_
 repeat refine aa rfl ?_
 exact aF rfl rfl rfl
set_option maxRecDepth 20000 in
theorem o4 (b:BR) (hb:b.Lim) (h0:bq b=0) (h93:Ret Tryz.prog .shared 44 [.agg (eB b)] (.tup [.agg (zN++zN),I 0])) (a:AR) (F:List RR) (h120:Ret Tryz.prog .shared 45 [.agg (eB b)] (.agg (eA a)))
  (h121:Ret Tryz.prog .shared 46 [.agg (eB b),.agg (eA a)] (.bool false)) (h23:Ret Tryz.prog .shared 29 [.sl (b.l.map eS),.agg (eA a)] (.tup [.sl (F.map eR),I 0])):Ret Tryz.prog .shared 9 [.agg (eB b)] (.tup [.agg (sW a F),.agg (zN++zN),I 0]):=by
 have h1:=b9 b hb
 rw[h0]at h1
 clear h0 hb
 refine Ret.of_pwp layOk mixed Go.Proofs.Tryz.func9 rfl (by decide) rfl rfl ?_
 repeat refine aa rfl ?_
 refine aP rfl rfl rfl h1 rfl rfl rfl ?_
 repeat refine aa rfl ?_
 refine ak rfl rfl rfl h93 rfl rfl ?_
 repeat refine aa rfl ?_
 refine ak rfl rfl rfl h120 rfl rfl ?_
 repeat refine aa rfl ?_
 refine aP rfl rfl rfl h121 rfl rfl rfl ?_
 repeat refine aa rfl ?_
 refine ak rfl rfl rfl h23 rfl rfl ?_
 repeat refine aa rfl ?_
 exact aF rfl rfl rfl
set_option maxRecDepth 20000 in
theorem wM (b:BR) (hb:b.Lim) (he:bq b≠0):Ret Tryz.prog .shared 10 [.agg (eB b)] (.tup [.nil,I (bq b)]):=by
 have h1:=b9 b hb
 generalize bq b=e at *
 refine Ret.of_pwp layOk mixed Go.Proofs.Tryz.func10 rfl (by decide) rfl rfl ?_
 repeat refine aa rfl ?_
 refine aP rfl rfl rfl h1 rfl rfl rfl ?_
 repeat refine aa rfl ?_
 refine ab rfl ?_ ?_<;>intro h
 ·clear h
  repeat refine aa rfl ?_
  exact aF rfl rfl rfl
 ·exfalso
  simp at h
  exact he h
set_option maxRecDepth 20000 in
theorem nq (b:BR) (hb:b.Lim) (h0:bq b=0) (r:AR) (e:Int) (he:e≠0) (h93:Ret Tryz.prog .shared 44 [.agg (eB b)] (.tup [.agg (eA r),I e])):Ret Tryz.prog .shared 10 [.agg (eB b)] (.tup [.nil,I e]):=by
 have h1:=b9 b hb
 rw[h0]at h1
 clear h0 hb
 refine Ret.of_pwp layOk mixed Go.Proofs.Tryz.func10 rfl (by decide) rfl rfl ?_
 repeat refine aa rfl ?_
 refine aP rfl rfl rfl h1 rfl rfl rfl ?_
 repeat refine aa rfl ?_
 refine ak rfl rfl rfl h93 rfl rfl ?_
 repeat refine aa rfl ?_
 refine ab rfl ?_ ?_<;>intro h
 ·clear h
  repeat refine aa rfl ?_
  exact aF rfl rfl rfl
 ·exfalso
  simp at h
  exact he h
set_option maxRecDepth 20000 in
theorem wL (b:BR) (hb:b.Lim) (h0:bq b=0) (h93:Ret Tryz.prog .shared 44 [.agg (eB b)] (.tup [.agg (zN++zN),I 0])) (a:AR) (F:List RR) (h120:Ret Tryz.prog .shared 45 [.agg (eB b)] (.agg (eA a)))
  (h23:Ret Tryz.prog .shared 29 [.sl (b.l.map eS),.agg (eA a)] (.tup [.sl (F.map eR),I 0])):Ret Tryz.prog .shared 10 [.agg (eB b)] (.tup [.sl (F.map eR),I 0]):=by
 have h1:=b9 b hb
 rw[h0]at h1
 clear h0 hb
 refine Ret.of_pwp layOk mixed Go.Proofs.Tryz.func10 rfl (by decide) rfl rfl ?_
 repeat refine aa rfl ?_
 refine aP rfl rfl rfl h1 rfl rfl rfl ?_
 repeat refine aa rfl ?_
 refine ak rfl rfl rfl h93 rfl rfl ?_
 repeat refine aa rfl ?_
 refine ah 9 [20,21,22,23,24,25,26,2,3] (by decide +kernel) ?_
 repeat refine aa rfl ?_
 refine ak rfl rfl rfl h120 rfl rfl ?_
 repeat refine aa rfl ?_
 refine ak rfl rfl rfl h23 rfl rfl ?_
 repeat refine aa rfl ?_
 exact aF rfl rfl rfl
theorem yI {b:BR} (hb:b.Ok) (hs:(bd b).Sz) (h40:∀t,(i9 b.l t).length≤40) (hS:∀t,SortC (i9 b.l t)) (h:i7 b):Ret Tryz.prog .shared 45 [.agg (eB b)] (.agg (eA ⟨ofQ (g_ b).1,ofQ (g_ b).2⟩)) :=
 oh b hb h40 hS (fun t=>Bd.enough (eG hb) t (jv h)) (by decide) (im hb hs h).1
theorem tX (b:BR) (hg:b.Good) (hS:bq b=0→∀t,SortC (i9 b.l t)):Ret Tryz.prog .shared 9 [.agg (eB b)] (dR b).pv:=by
 rw[dR]
 by_cases h0:bq b=0
 ·rw[if_pos h0]
  obtain⟨hb,hs,h40⟩:=hg.2 h0
  have h93:=fK b hb
  rw[cA]at h93
  by_cases h1:cT b bz=true
  ·rw[if_pos h1]at h93 ⊢
   exact(jJ b hg.1 h0 bz 12 (by decide) h93).weak (WeakL.refl _) (WeakL.tup (.cons fN.agg (WeakL.refl _)))
  ·rw[if_neg h1]at h93 ⊢
   cases h2:(bI b.l).find? (cT b) with
   |some r =>
    rw[h2]at h93
    exact(jJ b hg.1 h0 r 13 (by decide) h93).weak (WeakL.refl _) (WeakL.tup (.cons fN.agg (WeakL.refl _)))
   |none =>
    rw[h2]at h93
    have hn:=iO h1 h2
    have h120:=yI hb hs h40 (hS h0) hn
    obtain⟨_,hbal,hz,ht⟩:=im hb hs hn
    have va:Va ⟨ofQ (g_ b).1,ofQ (g_ b).2⟩ (g_ b).1 (g_ b).2 24000 20000:=⟨Vq.ofQ (h:=hz),Vq.ofQ (h:=ht)⟩
    have h121:=oy b hb ⟨ofQ (g_ b).1,ofQ (g_ b).2⟩ (ha:=va) (by decide)
    dsimp only
    cases hl:cw b (g_ b).1 (g_ b).2 with
    |true =>
     rw[hl]at h121
     exact(sj b hg.1 h0 h93 _ h120 h121).weak (WeakL.refl _) (WeakL.tup (.cons fN.agg (.cons fM.agg (WeakL.refl _))))
    |false =>
     rw[hl]at h121
     have h23:=gH b.l hb.lim.l hb.chkL ⟨ofQ (g_ b).1,ofQ (g_ b).2⟩ (ha:=va) (by decide)
     exact(o4 b hg.1 h0 h93 _ _ h120 h121 h23).weak (WeakL.refl _) (WeakL.tup (.cons (.rfl _) (.cons fM.agg (WeakL.refl _))))
 ·rw[if_neg h0]
  exact(xw b hg.1 h0).weak (WeakL.refl _) (WeakL.tup (.cons fN.agg (.cons fM.agg (WeakL.refl _))))
theorem tA (b:BR) (hg:b.Good) (hS:bq b=0→∀t,SortC (i9 b.l t)):Ret Tryz.prog .shared 10 [.agg (eB b)] (.tup [.sl ((cK b).1.map eR),I (cK b).2]):=by
 rw[cK]
 by_cases h0:bq b=0
 ·rw[if_pos h0]
  obtain⟨hb,hs,h40⟩:=hg.2 h0
  have h93:=fK b hb
  rw[cA]at h93
  by_cases h1:cT b bz=true
  ·rw[if_pos h1]at h93 ⊢
   exact(nq b hg.1 h0 bz 12 (by decide) h93).weak (WeakL.refl _) (WeakL.tup (.cons .nil (WeakL.refl _)))
  ·rw[if_neg h1]at h93 ⊢
   cases h2:(bI b.l).find? (cT b) with
   |some r =>
    rw[h2]at h93
    exact(nq b hg.1 h0 r 13 (by decide) h93).weak (WeakL.refl _) (WeakL.tup (.cons .nil (WeakL.refl _)))
   |none =>
    rw[h2]at h93
    have hn:=iO h1 h2
    have h120:=yI hb hs h40 (hS h0) hn
    obtain⟨_,hbal,hz,ht⟩:=im hb hs hn
    have va:Va ⟨ofQ (g_ b).1,ofQ (g_ b).2⟩ (g_ b).1 (g_ b).2 24000 20000:=⟨Vq.ofQ (h:=hz),Vq.ofQ (h:=ht)⟩
    have h23:=gH b.l hb.lim.l hb.chkL ⟨ofQ (g_ b).1,ofQ (g_ b).2⟩ (ha:=va) (by decide)
    exact wL b hg.1 h0 h93 _ _ h120 h23
 ·rw[if_neg h0]
  exact(wM b hg.1 h0).weak (WeakL.refl _) (WeakL.tup (.cons .nil (WeakL.refl _)))
set_option maxRecDepth 20000 in
theorem sM (n:Nat) (hn:n<18446744073709551616):Ret Tryz.prog .shared 144 [.int .u64 (n:Nat)] (.sl ((aq n).map eU)):=by
 refine Ret.of_pwp layOk mixed Go.Proofs.Tryz.func144 rfl (by decide) rfl rfl ?_
 ((repeat (first|refine aJ ?_ | refine b5 ?_ | refine bJ ?_ | refine bF ?_));refine aS ?_)
 refine ia rfl trivial ?_
 ((repeat (first|refine aJ ?_ | refine b5 ?_ | refine bJ ?_ | refine bF ?_));refine aS ?_)
 (first|refine ar (fh 177 1 0 rfl rfl ?_)|refine ar (fg 177 1 0 rfl rfl ?_))
 repeat refine aa rfl ?_
 refine am (fun q:Nat × List UInt16=>(aq n=q.2++aq q.1∧q.1<18446744073709551616)∧q.1*65536^q.2.length≤n) (fun q=>[(0,.int .u64 (q.1:Nat)),(3,.als 3 (1+q.2.length) 0 (q.2.map eU).length)]) (fun q=>[(3,1+q.2.length,⟨177,1,q.2.map eU,0⟩)]) (fun q=>q.1) (n,[]) ⟨⟨rfl,hn⟩,by simp⟩ ⟨rfl,rfl,rfl,trivial⟩ ?_
 rintro⟨m,L⟩ s ⟨⟨hL,hmn⟩,hb⟩
 simp only at hL hb hmn
 dsimp only
 repeat refine aa rfl ?_
 refine ab rfl ?_ ?_<;>intro h
 ·have hm:0<m:=by have:=of_decide_eq_true h;omega
  clear h
  have hLl:L.length<4:=by
   rcases Nat.lt_or_ge L.length 4 with h|h
   ·exact h
   ·exfalso
    have h1:65536^4≤65536^L.length:=Nat.pow_le_pow_right (by decide) h
    have h2:=Nat.mul_le_mul (show 1≤m by omega) h1
    have:1*65536^4=18446744073709551616:=by decide
    omega
  have hL2:=mS hL hm
  have hb2:m/65536*65536^(L++[UInt16.ofNat m]).length≤n:=by
   rw[List.length_append,List.length_singleton,Nat.pow_succ,Nat.mul_comm (65536^_),←Nat.mul_assoc]
   exact Nat.le_trans (Nat.mul_le_mul_right _ (Nat.div_mul_le_self _ _)) hb
  have ha:=Cp m hmn
  have hcv:IntKind.u16.wrap ((m-m/65536*65536:Nat):Int)=((UInt16.ofNat m).toNat:Int):=by rw[wrap_u16,aN,aN];omega
  repeat refine aa rfl ?_
  rw[ha,hcv]
  refine bH rfl rfl (c8 rfl rfl rfl rfl rfl rfl rfl rfl rfl rfl (by repeat' constructor) rfl) ?_
  refine ar (bE 0 rfl rfl rfl rfl rfl rfl rfl rfl rfl rfl rfl (by repeat' constructor) (by intro row hr;first|(simp at hr;subst hr;rfl)|simp at hr) rfl rfl (by simp;omega) (by simp;omega) ?_)
  repeat refine aa rfl ?_
  refine⟨(m/65536,L++[UInt16.ofNat m]),⟨⟨hL2,by simp only;omega⟩,hb2⟩,by simp only;omega,?_,?_,?_,trivial⟩
  ·show PV.int .u64 ((m:Int)/2^(16:Int).toNat)=PV.int .u64 ((m/65536:Nat):Int)
   rw[show((2:Int)^(16:Int).toNat)=65536 by decide];congr 1
  ·exact lO eU 3 1 L (UInt16.ofNat m)
  ·exact jQ eU 1 177 1 0 L (UInt16.ofNat m)
 ·have hm:m=0:=by have:=of_decide_eq_false h;omega
  subst hm
  clear h
  rw[bj,List.append_nil]at hL
  rw[hL]
  repeat refine aa rfl ?_
  exact fP rfl rfl rfl ⟨rfl,rfl,rfl⟩ rfl
set_option maxRecDepth 20000 in
theorem pn (z:Int) (hz:i64 z):Ret Tryz.prog .shared 79 [I z] (.agg (eI (bO z))):=by
 obtain⟨h0,h1⟩:=hz
 have hn:=sM z.natAbs (by omega)
 by_cases hz:z<0
 ·rw[bO,decide_eq_true hz]
  have w1:IntKind.i64.wrap (z+1)=z+1:=wrap_i64 (by omega) (by omega)
  have w2:IntKind.i64.wrap (0-(z+1))=0-(z+1):=wrap_i64 (by omega) (by omega)
  have w3:IntKind.u64.wrap (0-(z+1))=0-(z+1):=wrap_u64 (by omega) (by omega)
  have w4:IntKind.u64.wrap (0-(z+1)+1)=((z.natAbs:Nat):Int):=by rw[wrap_u64 (by omega) (by omega)];omega
  generalize aq z.natAbs=A at *
  generalize ((z.natAbs:Nat):Int)=na at *
  refine Ret.of_pwp layOk mixed Go.Proofs.Tryz.func79 rfl (by decide) rfl rfl ?_
  repeat refine aa rfl ?_
  refine ab rfl ?_ ?_<;>intro h
  ·clear h
   repeat refine aa rfl ?_
   rw[w1]
   repeat refine aa rfl ?_
   rw[w2]
   repeat refine aa rfl ?_
   rw[w3]
   repeat refine aa rfl ?_
   rw[w4]
   repeat refine aa rfl ?_
   refine ak rfl rfl rfl hn rfl rfl ?_
   repeat refine aa rfl ?_
   exact aF rfl rfl rfl
  ·exact absurd hz (of_decide_eq_false h)
 ·rw[bO,decide_eq_false hz]
  have w:IntKind.u64.wrap z=((z.natAbs:Nat):Int):=by rw[wrap_u64 (by omega) (by omega)];omega
  generalize aq z.natAbs=A at *
  refine Ret.of_pwp layOk mixed Go.Proofs.Tryz.func79 rfl (by decide) rfl rfl ?_
  repeat refine aa rfl ?_
  refine ab rfl ?_ ?_<;>intro h
  ·exact absurd (of_decide_eq_true h) hz
  ·clear h
   repeat refine aa rfl ?_
   rw[w]
   refine ak rfl rfl rfl hn rfl rfl ?_
   repeat refine aa rfl ?_
   exact aF rfl rfl rfl
theorem bk (z:Int) (hz:i64 z):Ret Tryz.prog .shared 27 [I z] (.agg (eR (ofQ (z:Rat)))):=by
 have h1:=pn z hz
 have h2:=pn 1 ⟨by decide,by decide⟩
 rw[rE]
 generalize bO z=X at *
 generalize bO 1=Y at *
 refine Ret.of_pwp layOk mixed Go.Proofs.Tryz.func27 rfl (by decide) rfl rfl ?_
 repeat refine aa rfl ?_
 refine ak rfl rfl rfl h1 rfl rfl ?_
 repeat refine aa rfl ?_
 refine ak rfl rfl rfl h2 rfl rfl ?_
 repeat refine aa rfl ?_
 exact aF rfl rfl rfl
set_option maxRecDepth 20000 in
theorem oY (a:RI) (ha:a.l.length≤1000000000):Ret Tryz.prog .shared 95 [.agg (eI a),.agg (eI a)] (.bool true):=by
 obtain⟨n,l⟩:=a
 simp only at ha
 have hml:(l.map eU).length=l.length:=by simp
 have hnn:(n != n)=false:=by cases n<;>rfl
 have main:∀nn:Bool,nn=n→Ret Tryz.prog .shared 95 [.agg [.bool nn,.sl (l.map eU)],.agg [.bool nn,.sl (l.map eU)]] (.bool true):=by
  intro nn _
  cases nn <;>
  ·refine Ret.of_pwp layOk mixed Go.Proofs.Tryz.func95 rfl (by decide) rfl rfl ?_
   repeat refine aa rfl ?_
   refine ab rfl ?_ ?_<;>intro h
   ·simp at h
   clear h
   repeat refine aa rfl ?_
   refine am (fun k=>k≤l.length) (fun k=>[(2,.ptr 2 1 0 0),(3,.ptr 3 1 0 0),(5,I (k:Nat))]) (fun _=>[(2,1,⟨24,2,[eI ⟨_,l⟩],2⟩),(3,1,⟨24,2,[eI ⟨_,l⟩],2⟩)]) (fun k=>l.length-k) 0 (Nat.zero_le _) ⟨rfl,rfl,rfl,rfl,rfl,trivial⟩ ?_
   intro k s hk
   repeat refine aa rfl ?_
   refine ab rfl ?_ ?_<;>intro h
   ·have hlt:k<l.length:=by have:=of_decide_eq_true h;simp only[List.length_map]at this;omega
    clear h
    obtain⟨x,hx⟩:=aL hlt
    have hw:=gz k
    repeat refine aa rfl ?_
    refine ah 11 [27,28,29,30,31,32,33,34,35,36,37] (by decide +kernel) ?_
    repeat refine aa rfl ?_
    refine aZ rfl rfl rfl rfl rfl rfl rfl hx rfl ?_
    repeat refine aa rfl ?_
    refine aZ rfl rfl rfl rfl rfl rfl rfl hx rfl ?_
    repeat refine aa rfl ?_
    refine ab rfl ?_ ?_<;>intro h
    ·simp at h
    clear h
    repeat refine aa rfl ?_
    exact⟨k+1,hlt,by omega,rfl,rfl,congrArg I hw,rfl,rfl,trivial⟩
   ·repeat refine aa rfl ?_
    exact bi rfl rfl rfl
 exact main n rfl
def RR.le (x:RR) (n:Nat):Prop:=x.n.l.length≤n∧x.d.l.length≤n
theorem eX (x:RR) (hx:x.le 1000000000):Ret Tryz.prog .shared 41 [.agg (eR x),.agg (eR x)] (.bool true):=by
 have h1:=oY x.n hx.1
 have h2:=oY x.d hx.2
 obtain⟨xn,xd⟩:=x
 refine Ret.of_pwp layOk mixed Go.Proofs.Tryz.func41 rfl (by decide) rfl rfl ?_
 repeat refine aa rfl ?_
 refine aP rfl rfl rfl h1 rfl rfl rfl ?_
 repeat refine aa rfl ?_
 refine aP rfl rfl rfl h2 rfl rfl rfl ?_
 repeat refine aa rfl ?_
 exact bi rfl rfl rfl
theorem ny {p:Rat} {n:Nat} (h:HQ p n) (hn:n≤100000000):Ret Tryz.prog .shared 41 [.agg (eR (ofQ p)),.agg (eR (ofQ p))] (.bool true):=by
 have:=dp h.ok
 exact eX _ ⟨by omega,by omega⟩
theorem jG (l:List RR) (hl:l.length≤1000000) (hs:∀x∈l,x.le 1000000000):Ret Tryz.prog .shared 16 [.sl (l.map eR),.sl (l.map eR)] (.bool true):=by
 have hml:(l.map eR).length=l.length:=by simp
 refine Ret.of_pwp layOk mixed Go.Proofs.Tryz.func16 rfl (by decide) rfl rfl ?_
 repeat refine aa rfl ?_
 refine ab rfl ?_ ?_<;>intro h
 ·simp at h
 clear h
 repeat refine aa rfl ?_
 refine am (fun k=>k≤l.length) (fun k=>[(0,.sl (l.map eR)),(1,.sl (l.map eR)),(5,I (k:Nat))]) (fun _=>[]) (fun k=>l.length-k) 0 (Nat.zero_le _) ⟨rfl,rfl,rfl,trivial⟩ ?_
 intro k s hk
 repeat refine aa rfl ?_
 refine ab rfl ?_ ?_<;>intro h
 ·have hlt:k<l.length:=by have:=of_decide_eq_true h;omega
  clear h
  obtain⟨x,hx⟩:=aL hlt
  have hxr:=eX x (hs x (List.mem_of_getElem? hx))
  have hw:=gz k
  repeat refine aa rfl ?_
  refine ah 10 [17,18,19,20,21,22,23,24,25,26] (by decide +kernel) ?_
  repeat refine aa rfl ?_
  refine aZ rfl rfl rfl rfl rfl rfl rfl hx rfl ?_
  repeat refine aa rfl ?_
  refine aZ rfl rfl rfl rfl rfl rfl rfl hx rfl ?_
  repeat refine aa rfl ?_
  refine aP rfl rfl rfl hxr rfl rfl rfl ?_
  repeat refine aa rfl ?_
  exact⟨k+1,hlt,by omega,rfl,rfl,congrArg I hw,trivial⟩
 ·repeat refine aa rfl ?_
  exact bi rfl rfl rfl
theorem xe (a:AR) (hz:a.z.le 1000000000) (ht:a.t.le 1000000000):Ret Tryz.prog .shared 25 [.agg (eA a),.agg (eA a)] (.bool true):=by
 have h1:=eX a.z hz
 have h2:=eX a.t ht
 obtain⟨z,t⟩:=a
 refine Ret.of_pwp layOk mixed Go.Proofs.Tryz.func25 rfl (by decide) rfl rfl ?_
 repeat refine aa rfl ?_
 refine aP rfl rfl rfl h1 rfl rfl rfl ?_
 repeat refine aa rfl ?_
 refine aP rfl rfl rfl h2 rfl rfl rfl ?_
 repeat refine aa rfl ?_
 exact bi rfl rfl rfl
theorem lH (a:AR) (hz:a.z.le 1000000000) (ht:a.t.le 1000000000):Ret Tryz.prog .shared 13 [.agg (eA a),.agg (eA a)] (.bool true):=by
 have h1:=eX a.z hz
 have h2:=eX a.t ht
 obtain⟨z,t⟩:=a
 refine Ret.of_pwp layOk mixed Go.Proofs.Tryz.func13 rfl (by decide) rfl rfl ?_
 repeat refine aa rfl ?_
 refine aP rfl rfl rfl h1 rfl rfl rfl ?_
 repeat refine aa rfl ?_
 refine aP rfl rfl rfl h2 rfl rfl rfl ?_
 repeat refine aa rfl ?_
 exact bi rfl rfl rfl
def qB (x:RR) (n:Nat):Bool:=decide (x.n.l.length≤n)&&decide (x.d.l.length≤n)
theorem Af {x:RR} {n:Nat}:qB x n=true↔x.sz n:=by rw[qB,Bool.and_eq_true,decide_eq_true_eq,decide_eq_true_eq];rfl
theorem jI (x:RR) (n:Nat) (hn:n≤1000000):Ret Tryz.prog .shared 43 [.agg (eR x),I (n:Nat)] (.bool (qB x n)):=by
 have e1:decide ((((x.n.l.map eU).length:Nat):Int)≤(n:Int))=decide (x.n.l.length≤n):=by rw[decide_eq_decide,List.length_map];omega
 have e2:decide ((((x.d.l.map eU).length:Nat):Int)≤(n:Int))=decide (x.d.l.length≤n):=by rw[decide_eq_decide,List.length_map];omega
 rw[qB,←e1,←e2]
 obtain⟨⟨xn,xl⟩,⟨yn,yl⟩⟩:=x
 refine Ret.of_pwp layOk mixed Go.Proofs.Tryz.func43 rfl (by decide) rfl rfl ?_
 repeat refine aa rfl ?_
 refine dr rfl rfl rfl ?_ ?_<;>intro h
 ·rw[h]
  clear h
  repeat refine aa rfl ?_
  exact bi rfl rfl rfl
 ·rw[h]
  clear h
  repeat refine aa rfl ?_
  exact bi rfl rfl rfl
theorem qr (l:List RR) (n:Nat) (hn:n≤1000000) (hl:l.length≤9223372036854775807):Ret Tryz.prog .shared 87 [.sl (l.map eR),I (n:Nat)] (.bool (l.all fun x=>qB x n)):=by
 have hml:(l.map eR).length=l.length:=by simp
 generalize hF:(l.all fun x=>qB x n)=F
 refine Ret.of_pwp layOk mixed Go.Proofs.Tryz.func87 rfl (by decide) rfl rfl ?_
 repeat refine aa rfl ?_
 refine am (fun k=>k≤l.length∧((l.drop k).all fun x=>qB x n)=F) (fun k=>[(0,.sl (l.map eR)),(1,I (n:Nat)),(5,I (k:Nat))]) (fun _=>[]) (fun k=>l.length-k) 0 ⟨Nat.zero_le _,by rw[List.drop_zero];exact hF⟩ ⟨rfl,rfl,rfl,trivial⟩ ?_
 intro k s ⟨hk,hD⟩
 repeat refine aa rfl ?_
 refine ab rfl ?_ ?_<;>intro h
 ·have hlt:k<l.length:=by have:=of_decide_eq_true h;omega
  clear h
  obtain⟨x,hx⟩:=aL hlt
  have hr:=jI x n hn
  have hw:=gz k
  have hdr:((l.drop k).all fun x=>qB x n)=(qB x n&&(l.drop (k+1)).all fun x=>qB x n):=by
   obtain⟨hl1,h2⟩:=List.getElem?_eq_some_iff.1 hx
   rw[List.drop_eq_getElem_cons hl1,h2,List.all_cons]
  rw[hdr]at hD
  cases hs:qB x n with
  |true =>
   rw[hs]at hr hD
   rw[Bool.true_and]at hD
   repeat refine aa rfl ?_
   refine aZ rfl rfl rfl rfl rfl rfl rfl hx rfl ?_
   repeat refine aa rfl ?_
   refine aP rfl rfl rfl hr rfl rfl rfl ?_
   repeat refine aa rfl ?_
   exact⟨k+1,⟨hlt,hD⟩,by omega,rfl,rfl,congrArg I hw,trivial⟩
  |false =>
   rw[hs]at hr hD
   rw[Bool.false_and]at hD
   subst hD
   repeat refine aa rfl ?_
   refine aZ rfl rfl rfl rfl rfl rfl rfl hx rfl ?_
   repeat refine aa rfl ?_
   refine aP rfl rfl rfl hr rfl rfl rfl ?_
   repeat refine aa rfl ?_
   exact bi rfl rfl rfl
 ·have hie:k=l.length:=by have:=of_decide_eq_false h;omega
  clear h
  rw[hie,List.drop_length,List.all_nil]at hD
  subst hD
  repeat refine aa rfl ?_
  exact bi rfl rfl rfl
def xN (st:Nat) (s:SR):Bool:=!(decide (st<s.k.S.length)||decide (st+1<s.k.M.length)||!qB s.c 3||!(s.k.M.all fun x=>qB x 3))
theorem uX {st:Nat} {s:SR}:xN st s=true↔tR st s:=by
 rw[xN,tR]
 simp only[Bool.not_eq_true',Bool.or_eq_false_iff,decide_eq_false_iff_not,Bool.not_eq_false',List.all_eq_true,Af]
 constructor
 ·rintro⟨⟨⟨h1,h2⟩,h3⟩,h4⟩;exact⟨by omega,by omega,h3,h4⟩
 ·rintro⟨h1,h2,h3,h4⟩;exact⟨⟨⟨by omega,by omega⟩,h3⟩,h4⟩
def CD (l:List SR) (most st:Nat):Bool:=decide (l.length≤most)&&l.all (xN st)
theorem ko {l:List SR} {most st:Nat}:CD l most st=true↔kH l most st:=by
 rw[CD,Bool.and_eq_true,decide_eq_true_eq,List.all_eq_true,kH]
 constructor
 ·rintro⟨h1,h2⟩;exact⟨h1,fun s hs=>uX.1 (h2 s hs)⟩
 ·rintro⟨h1,h2⟩;exact⟨h1,fun s hs=>uX.2 (h2 s hs)⟩
def AY (l:List SR):Prop:=l.length≤9223372036854775807∧∀s∈l,s.k.S.length≤9223372036854775807∧s.k.M.length≤9223372036854775807
set_option maxRecDepth 20000 in
theorem tQ (l:List SR) (hll:AY l) (most st:Nat) (hm:most≤1000) (hst:st≤1000):Ret Tryz.prog .shared 32 [.sl (l.map eS),I (most:Nat),I (st:Nat)] (.bool (CD l most st)):=by
 have hml:(l.map eS).length=l.length:=by simp
 by_cases h0:most<l.length
 ·rw[CD,decide_eq_false (by omega),Bool.false_and]
  refine Ret.of_pwp layOk mixed Go.Proofs.Tryz.func32 rfl (by decide) rfl rfl ?_
  repeat refine aa rfl ?_
  refine ab rfl ?_ ?_<;>intro h
  ·clear h
   repeat refine aa rfl ?_
   exact bi rfl rfl rfl
  ·have:=of_decide_eq_false h;omega
 rw[CD,decide_eq_true (by omega),Bool.true_and]
 generalize hF:(l.all (xN st))=F
 refine Ret.of_pwp layOk mixed Go.Proofs.Tryz.func32 rfl (by decide) rfl rfl ?_
 repeat refine aa rfl ?_
 refine ab rfl ?_ ?_<;>intro h
 ·have:=of_decide_eq_true h;omega
 clear h
 repeat refine aa rfl ?_
 refine am (fun k=>k≤l.length∧((l.drop k).all (xN st))=F) (fun k=>[(0,.sl (l.map eS)),(2,I (st:Nat)),(7,I (k:Nat))]) (fun _=>[]) (fun k=>l.length-k) 0 ⟨Nat.zero_le _,by rw[List.drop_zero];exact hF⟩ ⟨rfl,rfl,rfl,trivial⟩ ?_
 intro k s ⟨hk,hD⟩
 repeat refine aa rfl ?_
 refine ab rfl ?_ ?_<;>intro h
 ·have hlt:k<l.length:=by have:=of_decide_eq_true h;omega
  clear h
  obtain⟨x,hx⟩:=aL hlt
  have hl2:=hll.2 x (List.mem_of_getElem? hx)
  have hr:=jI x.c 3 (by decide)
  have hr2:=qr x.k.M 3 (by decide) (by omega)
  have hw:=gz k
  have hws:IntKind.i64.wrap (((st:Nat):Int)+1)=((st+1:Nat):Int):=by rw[wrap_i64 (by omega) (by omega)];omega
  have hdr:((l.drop k).all (xN st))=(xN st x&&(l.drop (k+1)).all (xN st)):=by
   obtain⟨hl1,h2⟩:=List.getElem?_eq_some_iff.1 hx
   rw[List.drop_eq_getElem_cons hl1,h2,List.all_cons]
  rw[hdr]at hD
  have hsx:xN st x=xN st x:=rfl
  conv at hsx=>rhs;rw[xN]
  generalize xN st x=ok at *
  generalize qB x.c 3=o1 at *
  obtain⟨o2,ho2⟩:∃o2,(x.k.M.all fun y=>qB y 3)=o2:=⟨_,rfl⟩
  rw[ho2]at hsx hr2
  clear ho2
  obtain⟨xx,xc,⟨xS,xM⟩⟩:=x
  simp only at *
  have lS:(xS.map eN).length=xS.length:=by simp
  have lM:(xM.map eR).length=xM.length:=by simp
  by_cases hb1:st<xS.length
  ·rw[decide_eq_true hb1]at hsx
   simp only[Bool.true_or,Bool.not_true]at hsx
   subst hsx
   rw[Bool.false_and]at hD
   subst hD
   repeat refine aa rfl ?_
   refine aZ rfl rfl rfl rfl rfl rfl rfl hx rfl ?_
   repeat refine aa rfl ?_
   refine dr rfl rfl rfl ?_ ?_<;>intro h
   ·clear h
    repeat refine aa rfl ?_
    exact bi rfl rfl rfl
   ·exfalso
    have:=of_decide_eq_false h
    simp only[lS]at this
    omega
  rw[decide_eq_false hb1,Bool.false_or]at hsx
  by_cases hb2:st+1<xM.length
  ·rw[decide_eq_true hb2]at hsx
   simp only[Bool.true_or,Bool.not_true]at hsx
   subst hsx
   rw[Bool.false_and]at hD
   subst hD
   repeat refine aa rfl ?_
   refine aZ rfl rfl rfl rfl rfl rfl rfl hx rfl ?_
   repeat refine aa rfl ?_
   refine dr rfl rfl rfl ?_ ?_<;>intro h
   ·exfalso
    have:=of_decide_eq_true h
    simp only[lS]at this
    omega
   ·clear h
    repeat refine aa rfl ?_
    rw[hws]
    repeat refine aa rfl ?_
    refine dr rfl rfl rfl ?_ ?_<;>intro h
    ·clear h
     repeat refine aa rfl ?_
     exact bi rfl rfl rfl
    ·exfalso
     have:=of_decide_eq_false h
     simp only[lM]at this
     omega
  rw[decide_eq_false hb2,Bool.false_or]at hsx
  cases o1 with
  |false =>
   simp only[Bool.not_false,Bool.true_or,Bool.not_true]at hsx
   subst hsx
   rw[Bool.false_and]at hD
   subst hD
   repeat refine aa rfl ?_
   refine aZ rfl rfl rfl rfl rfl rfl rfl hx rfl ?_
   repeat refine aa rfl ?_
   refine dr rfl rfl rfl ?_ ?_<;>intro h
   ·exfalso
    have:=of_decide_eq_true h
    simp only[lS]at this
    omega
   ·clear h
    repeat refine aa rfl ?_
    rw[hws]
    repeat refine aa rfl ?_
    refine dr rfl rfl rfl ?_ ?_<;>intro h
    ·exfalso
     have:=of_decide_eq_true h
     simp only[lM]at this
     omega
    ·clear h
     repeat refine aa rfl ?_
     refine aZ rfl rfl rfl rfl rfl rfl rfl hx rfl ?_
     repeat refine aa rfl ?_
     refine aP rfl rfl rfl hr rfl rfl rfl ?_
     repeat refine aa rfl ?_
     exact bi rfl rfl rfl
  |true =>
   simp only[Bool.not_true,Bool.false_or,Bool.not_not]at hsx
   subst hsx
   cases ok with
   |false =>
    rw[Bool.false_and]at hD
    subst hD
    repeat refine aa rfl ?_
    refine aZ rfl rfl rfl rfl rfl rfl rfl hx rfl ?_
    repeat refine aa rfl ?_
    refine dr rfl rfl rfl ?_ ?_<;>intro h
    ·exfalso
     have:=of_decide_eq_true h
     simp only[lS]at this
     omega
    ·clear h
     repeat refine aa rfl ?_
     rw[hws]
     repeat refine aa rfl ?_
     refine dr rfl rfl rfl ?_ ?_<;>intro h
     ·exfalso
      have:=of_decide_eq_true h
      simp only[lM]at this
      omega
     ·clear h
      repeat refine aa rfl ?_
      refine aZ rfl rfl rfl rfl rfl rfl rfl hx rfl ?_
      repeat refine aa rfl ?_
      refine aP rfl rfl rfl hr rfl rfl rfl ?_
      repeat refine aa rfl ?_
      refine aP rfl rfl rfl hr2 rfl rfl rfl ?_
      repeat refine aa rfl ?_
      exact bi rfl rfl rfl
   |true =>
    rw[Bool.true_and]at hD
    repeat refine aa rfl ?_
    refine aZ rfl rfl rfl rfl rfl rfl rfl hx rfl ?_
    repeat refine aa rfl ?_
    refine dr rfl rfl rfl ?_ ?_<;>intro h
    ·exfalso
     have:=of_decide_eq_true h
     simp only[lS]at this
     omega
    ·clear h
     repeat refine aa rfl ?_
     rw[hws]
     repeat refine aa rfl ?_
     refine dr rfl rfl rfl ?_ ?_<;>intro h
     ·exfalso
      have:=of_decide_eq_true h
      simp only[lM]at this
      omega
     ·clear h
      repeat refine aa rfl ?_
      refine aZ rfl rfl rfl rfl rfl rfl rfl hx rfl ?_
      repeat refine aa rfl ?_
      refine aP rfl rfl rfl hr rfl rfl rfl ?_
      repeat refine aa rfl ?_
      refine aP rfl rfl rfl hr2 rfl rfl rfl ?_
      repeat refine aa rfl ?_
      exact⟨k+1,⟨hlt,hD⟩,by omega,rfl,rfl,congrArg I hw,trivial⟩
 ·have hie:k=l.length:=by have:=of_decide_eq_false h;omega
  clear h
  rw[hie,List.drop_length,List.all_nil]at hD
  subst hD
  repeat refine aa rfl ?_
  exact bi rfl rfl rfl
def mU (b:BR):Bool:=CD b.l 10 4&&qB b.a 3
set_option maxRecDepth 20000 in
theorem tz (c:CR) (hc:c.Lim):Ret Tryz.prog .shared 104 [.agg (eC c)] (I (br c)):=by
 obtain⟨S,M⟩:=c
 obtain⟨hs,hm,hls,hlm⟩:=hc
 simp only at hs hm hls hlm
 have hSl:(S.map eN).length=S.length:=by simp
 have hMl:(M.map eR).length=M.length:=by simp
 generalize hE:br ⟨S,M⟩=E
 simp only[br]at hE
 show Ret Tryz.prog .shared 104 [.agg [.sl (S.map eN),.sl (M.map eR)]] (I E)
 refine Ret.of_pwp layOk mixed Go.Proofs.Tryz.func104 rfl (by decide) rfl rfl ?_
 repeat refine aa rfl ?_
 refine ab rfl ?_ ?_<;>intro h
 ·have h1:=of_decide_eq_true h
  rw[if_pos (by omega)]at hE
  subst hE
  repeat refine aa rfl ?_
  exact aO rfl rfl rfl
 have h40:¬40<S.length:=by have h1:=of_decide_eq_false h;omega
 rw[if_neg h40]at hE
 clear h
 repeat refine aa rfl ?_
 refine ab rfl ?_ ?_<;>intro h
 ·have h1:M.length≠S.length:=by simp at h;omega
  rw[if_pos h1]at hE
  subst hE
  repeat refine aa rfl ?_
  exact aO rfl rfl rfl
 have hSM:M.length=S.length:=by simp at h;omega
 rw[if_neg (by omega)]at hE
 clear h
 repeat refine aa rfl ?_
 refine am (fun i:Nat=>i≤S.length∧cE ⟨S,M⟩ i (S.length-i)=E) (fun i=>[(3,I (i:Nat)),(1,.ptr 1 1 0 0)]) (fun _=>[(1,1,⟨69,2,[[.sl (S.map eN),.sl (M.map eR)]],2⟩)]) (fun i=>S.length-i) 0 ⟨Nat.zero_le _,hE⟩ ⟨rfl,rfl,rfl,trivial⟩ ?_
 intro i s ⟨hi,hF⟩
 repeat refine aa rfl ?_
 refine ab rfl ?_ ?_<;>intro h
 ·have hlt:i<S.length:=by have:=of_decide_eq_true h;omega
  clear h
  obtain⟨k,hk⟩:∃k,S.length-i=k+1:=⟨S.length-i-1,by omega⟩
  rw[hk,cE]at hF
  have hx:=aC (d:=0) hlt
  have hmx:=aC (l:=M) (i:=i) (d:=RR.zero) (by omega)
  have hse:dD ⟨S,M⟩ i=dD ⟨S,M⟩ i:=rfl
  conv at hse=>rhs;rw[dD]
  simp only at hse
  generalize dD ⟨S,M⟩ i=se at *
  have hxb:=hs _ (List.mem_of_getElem? hx)
  have hmv:=(hm _ (List.mem_of_getElem? hmx)).v
  have hsg:=nu (M.getD i RR.zero) (hx:=hmv) (by decide)
  have hsl:=eE (M.getD i RR.zero).val
  generalize hx0:S.getD i 0=x at *
  generalize M.getD i RR.zero=m at *
  generalize sgn m.val=sg at *
  repeat refine aa rfl ?_
  refine aZ rfl rfl rfl rfl rfl rfl rfl hx rfl ?_
  repeat refine aa rfl ?_
  refine dr rfl rfl rfl ?_ ?_<;>intro h
  ·have h1:=of_decide_eq_true h
   clear h
   have hS2:se=2:=by rw[hse,if_pos (.inl h1)]
   rw[hS2,if_neg (by decide)]at hF
   subst hF
   repeat refine aa rfl ?_
   exact aO rfl rfl rfl
  ·have h1:=of_decide_eq_false h
   clear h
   repeat refine aa rfl ?_
   refine aZ rfl rfl rfl rfl rfl rfl rfl hx rfl ?_
   repeat refine aa rfl ?_
   refine dr rfl rfl rfl ?_ ?_<;>intro h
   ·have h2:=of_decide_eq_true h
    clear h
    have hS2:se=2:=by rw[hse,if_pos (.inr (.inl h2))]
    rw[hS2,if_neg (by decide)]at hF
    subst hF
    repeat refine aa rfl ?_
    exact aO rfl rfl rfl
   ·have h2:=of_decide_eq_false h
    clear h
    repeat refine aa rfl ?_
    refine aZ rfl rfl rfl rfl rfl rfl rfl hmx rfl ?_
    repeat refine aa rfl ?_
    refine aP rfl rfl rfl hsg rfl rfl rfl ?_
    repeat refine aa rfl ?_
    refine ab rfl ?_ ?_<;>intro h
    ·have h3:=of_decide_eq_true h
     clear h
     have hS2:se=2:=by rw[hse,if_pos (.inr (.inr (hsl.1 h3)))]
     rw[hS2,if_neg (by decide)]at hF
     subst hF
     repeat refine aa rfl ?_
     exact aO rfl rfl rfl
    ·have h3:=of_decide_eq_false h
     clear h
     rw[if_neg (by rw[←hsl];omega)]at hse
     repeat refine aa rfl ?_
     rcases Nat.eq_zero_or_pos i with hi0|hi0
     ·subst hi0
      have hS2:se=0:=by rw[hse,if_neg (fun h=>by omega)]
      rw[if_pos hS2]at hF
      have hw:=gz 0
      refine ah 16 [45,46,47,48,49,50,51,52,53,54,55,56,57,58,59,60] (by decide +kernel) ?_
      repeat refine aa rfl ?_
      exact⟨0+1,⟨by omega,by rw[show S.length-(0+1)=k by omega];exact hF⟩,by omega,congrArg I hw,rfl,rfl,trivial⟩
     ·obtain⟨j,rfl⟩:∃j,i=j+1:=⟨i-1,by omega⟩
      have hw1:IntKind.i64.wrap (((j+1:Nat):Int)-1)=((j:Nat):Int):=by rw[wrap_i64 (by omega) (by omega)];omega
      have hy:=aC (l:=S) (i:=j) (d:=0) (by omega)
      rw[show j+1-1=j by omega]at hse
      generalize S.getD j 0=y at *
      refine ah 16 [45,46,47,48,49,50,51,52,53,54,55,56,57,58,59,60] (by decide +kernel) ?_
      repeat refine aa rfl ?_
      refine dr rfl rfl rfl ?_ ?_<;>intro h
      ·clear h
       repeat refine aa rfl ?_
       refine aZ rfl rfl rfl rfl rfl rfl rfl hx rfl ?_
       repeat refine aa rfl ?_
       rw[hw1]
       refine aZ rfl rfl rfl rfl rfl rfl rfl hy rfl ?_
       repeat refine aa rfl ?_
       refine ab rfl ?_ ?_<;>intro h
       ·have h5:=of_decide_eq_true h
        clear h
        have hS2:se=10:=by rw[hse,if_pos ⟨by omega,h5⟩]
        rw[hS2,if_neg (by decide)]at hF
        subst hF
        repeat refine aa rfl ?_
        exact aO rfl rfl rfl
       ·have h5:=of_decide_eq_false h
        clear h
        have hS2:se=0:=by rw[hse,if_neg (fun h=>h5 h.2)]
        rw[if_pos hS2]at hF
        have hw:IntKind.i64.wrap (((j+1:Nat):Int)+1)=((j+1+1:Nat):Int):=by rw[wrap_i64 (by omega) (by omega)];omega
        repeat refine aa rfl ?_
        exact⟨j+1+1,⟨by omega,by rw[show S.length-(j+1+1)=k by omega];exact hF⟩,by omega,congrArg I hw,rfl,rfl,trivial⟩
      ·have:=of_decide_eq_false h
       omega
 ·have hie:i=S.length:=by have:=of_decide_eq_false h;omega
  rw[hie,Nat.sub_self,cE]at hF
  subst hF
  repeat refine aa rfl ?_
  exact aO rfl rfl rfl
def xG (p:Rat) (lo hi:Int):Bool:=decide ((lo:Rat)≤p)&&decide (p≤(hi:Rat))
theorem nQ (x:RR) {p:Rat} {m:Nat} [hx:Vq x p m] (hm:m≤1000000) (lo hi:Int) (hlo:i64 lo) (hhi:i64 hi):Ret Tryz.prog .shared 47 [.agg (eR x),I lo,I hi] (.bool (xG p lo hi)):=by
 have w1:=bk lo hlo
 have w2:=bk hi hhi
 have z1:Zb lo:=aE hlo.1 hlo.2
 have z2:Zb hi:=aE hhi.1 hhi.2
 have c1:=cS x (ofQ (lo:Rat)) (by omega) (by decide)
 have c2:=cS x (ofQ (hi:Rat)) (by omega) (by decide)
 have e1:decide ((lo:Rat)≤p)=decide (0≤sgn (p-(lo:Rat))):=by rw[decide_eq_decide,tO];constructor<;>intro h<;>grind
 have e2:decide (p≤(hi:Rat))=decide (sgn (p-(hi:Rat))≤0):=by rw[decide_eq_decide,tP];constructor<;>intro h<;>grind
 rw[xG,e1,e2]
 generalize sgn (p-(lo:Rat))=g1 at *
 generalize sgn (p-(hi:Rat))=g2 at *
 generalize ofQ (lo:Rat)=W1 at *
 generalize ofQ (hi:Rat)=W2 at *
 refine Ret.of_pwp layOk mixed Go.Proofs.Tryz.func47 rfl (by decide) rfl rfl ?_
 repeat refine aa rfl ?_
 refine ah 13 [7,8,9,10,11,12,13,14,15,16,17,18,6] (by decide +kernel) ?_
 repeat refine aa rfl ?_
 refine ak rfl rfl rfl w1 rfl rfl ?_
 repeat refine aa rfl ?_
 refine aP rfl rfl rfl c1 rfl rfl rfl ?_
 repeat refine aa rfl ?_
 refine dr rfl rfl rfl ?_ ?_<;>intro h
 ·rw[h]
  clear h
  repeat refine aa rfl ?_
  refine ak rfl rfl rfl w2 rfl rfl ?_
  repeat refine aa rfl ?_
  refine aP rfl rfl rfl c2 rfl rfl rfl ?_
  repeat refine aa rfl ?_
  exact bi rfl rfl rfl
 ·rw[h]
  clear h
  repeat refine aa rfl ?_
  exact bi rfl rfl rfl
theorem AO {p:Rat} {n:Int}:xG p (-n) n=false↔(p < -(n:Rat)∨(n:Rat)<p):=by
 rw[xG,Bool.and_eq_false_iff,decide_eq_false_iff_not,decide_eq_false_iff_not]
 have e:(((-n:Int)):Rat) = -(n:Rat):=by push_cast;rfl
 rw[e]
 constructor
 ·rintro(h|h)
  ·left;grind
  ·right;grind
 ·rintro(h|h)
  ·left;grind
  ·right;grind
set_option maxRecDepth 20000 in
theorem tw (l:List SR) (hl:eJ l):Ret Tryz.prog .shared 48 [.sl (l.map eS)] (I (bD l)):=by
 have hml:(l.map eS).length=l.length:=by simp
 generalize hE:bD l=E
 rw[bD]at hE
 obtain⟨hs,hll⟩:=hl
 refine Ret.of_pwp layOk mixed Go.Proofs.Tryz.func48 rfl (by decide) rfl rfl ?_
 repeat refine aa rfl ?_
 refine ab rfl ?_ ?_<;>intro h
 ·have h1:=of_decide_eq_true h
  rw[if_pos (by omega)]at hE
  subst hE
  repeat refine aa rfl ?_
  exact aO rfl rfl rfl
 rw[if_neg (by have:=of_decide_eq_false h;omega)]at hE
 clear h
 repeat refine aa rfl ?_
 refine am (fun i:Nat=>i≤l.length∧ct ib (l.drop i)=E) (fun i=>[(0,.sl (l.map eS)),(3,I (i:Nat))]) (fun _=>[]) (fun i=>l.length-i) 0 ⟨Nat.zero_le _,by rw[List.drop_zero];exact hE⟩ ⟨rfl,rfl,trivial⟩ ?_
 intro i s ⟨hi,hF⟩
 repeat refine aa rfl ?_
 refine ab rfl ?_ ?_<;>intro h
 ·have hlt:i<l.length:=by have:=of_decide_eq_true h;omega
  clear h
  obtain⟨x,hx⟩:=aL hlt
  rw[lv ib hx]at hF
  have hxl:=hs x (List.mem_of_getElem? hx)
  have hw:=nQ x.c (hx:=hxl.c.v) (by decide) (-10000000) 10000000 ⟨by decide,by decide⟩ ⟨by decide,by decide⟩
  have hwn:=AO (p:=x.c.val) (n:=10000000)
  have hcv:=tz x.k hxl.k
  have hse:ib x=ib x:=rfl
  conv at hse=>rhs;rw[ib]
  have hwr:IntKind.i64.wrap (((i:Nat):Int)+1)=((i+1:Nat):Int):=by rw[wrap_i64 (by omega) (by omega)];omega
  generalize ib x=se at *
  generalize br x.k=ce at *
  generalize xG x.c.val (-10000000) 10000000=wb at *
  obtain⟨xx,xc,xk⟩:=x
  simp only at *
  by_cases h1:xx < -1000000
  ·have h2:se=2:=by rw[hse,if_pos (.inl (.inl h1))]
   rw[h2,if_neg (by decide)]at hF
   subst hF
   repeat refine aa rfl ?_
   refine aZ rfl rfl rfl rfl rfl rfl rfl hx rfl ?_
   repeat refine aa rfl ?_
   refine dr rfl rfl rfl ?_ ?_<;>intro h
   ·clear h
    repeat refine aa rfl ?_
    exact aO rfl rfl rfl
   ·exact absurd h1 (of_decide_eq_false h)
  by_cases h2:1000000<xx
  ·have h3:se=2:=by rw[hse,if_pos (.inl (.inr h2))]
   rw[h3,if_neg (by decide)]at hF
   subst hF
   repeat refine aa rfl ?_
   refine aZ rfl rfl rfl rfl rfl rfl rfl hx rfl ?_
   repeat refine aa rfl ?_
   refine dr rfl rfl rfl ?_ ?_<;>intro h
   ·exact absurd (of_decide_eq_true h) h1
   ·clear h
    repeat refine aa rfl ?_
    refine aZ rfl rfl rfl rfl rfl rfl rfl hx rfl ?_
    repeat refine aa rfl ?_
    refine dr rfl rfl rfl ?_ ?_<;>intro h
    ·clear h
     repeat refine aa rfl ?_
     exact aO rfl rfl rfl
    ·exact absurd h2 (of_decide_eq_false h)
  cases wb with
  |false =>
   have h3:se=2:=by rw[hse,if_pos (.inr (hwn.1 rfl))]
   rw[h3,if_neg (by decide)]at hF
   subst hF
   repeat refine aa rfl ?_
   refine aZ rfl rfl rfl rfl rfl rfl rfl hx rfl ?_
   repeat refine aa rfl ?_
   refine dr rfl rfl rfl ?_ ?_<;>intro h
   ·exact absurd (of_decide_eq_true h) h1
   ·clear h
    repeat refine aa rfl ?_
    refine aZ rfl rfl rfl rfl rfl rfl rfl hx rfl ?_
    repeat refine aa rfl ?_
    refine dr rfl rfl rfl ?_ ?_<;>intro h
    ·exact absurd (of_decide_eq_true h) h2
    ·clear h
     repeat refine aa rfl ?_
     refine aZ rfl rfl rfl rfl rfl rfl rfl hx rfl ?_
     repeat refine aa rfl ?_
     refine aP rfl rfl rfl hw rfl rfl rfl ?_
     repeat refine aa rfl ?_
     exact aO rfl rfl rfl
  |true =>
   have h3:se=ce:=by
    rw[hse,if_neg]
    rintro(h|h)
    ·omega
    ·exact absurd (hwn.2 h) (by decide)
   rw[h3]at hF
   by_cases h0:ce=0
   ·rw[if_pos h0]at hF
    subst h0
    repeat refine aa rfl ?_
    refine aZ rfl rfl rfl rfl rfl rfl rfl hx rfl ?_
    repeat refine aa rfl ?_
    refine dr rfl rfl rfl ?_ ?_<;>intro h
    ·exact absurd (of_decide_eq_true h) h1
    ·clear h
     repeat refine aa rfl ?_
     refine aZ rfl rfl rfl rfl rfl rfl rfl hx rfl ?_
     repeat refine aa rfl ?_
     refine dr rfl rfl rfl ?_ ?_<;>intro h
     ·exact absurd (of_decide_eq_true h) h2
     ·clear h
      repeat refine aa rfl ?_
      refine aZ rfl rfl rfl rfl rfl rfl rfl hx rfl ?_
      repeat refine aa rfl ?_
      refine aP rfl rfl rfl hw rfl rfl rfl ?_
      repeat refine aa rfl ?_
      refine aZ rfl rfl rfl rfl rfl rfl rfl hx rfl ?_
      repeat refine aa rfl ?_
      refine aP rfl rfl rfl hcv rfl rfl rfl ?_
      repeat refine aa rfl ?_
      exact⟨i+1,⟨by omega,hF⟩,by omega,rfl,congrArg I hwr,trivial⟩
   ·rw[if_neg h0]at hF
    subst hF
    repeat refine aa rfl ?_
    refine aZ rfl rfl rfl rfl rfl rfl rfl hx rfl ?_
    repeat refine aa rfl ?_
    refine dr rfl rfl rfl ?_ ?_<;>intro h
    ·exact absurd (of_decide_eq_true h) h1
    ·clear h
     repeat refine aa rfl ?_
     refine aZ rfl rfl rfl rfl rfl rfl rfl hx rfl ?_
     repeat refine aa rfl ?_
     refine dr rfl rfl rfl ?_ ?_<;>intro h
     ·exact absurd (of_decide_eq_true h) h2
     ·clear h
      repeat refine aa rfl ?_
      refine aZ rfl rfl rfl rfl rfl rfl rfl hx rfl ?_
      repeat refine aa rfl ?_
      refine aP rfl rfl rfl hw rfl rfl rfl ?_
      repeat refine aa rfl ?_
      refine aZ rfl rfl rfl rfl rfl rfl rfl hx rfl ?_
      repeat refine aa rfl ?_
      refine aP rfl rfl rfl hcv rfl rfl rfl ?_
      repeat refine aa rfl ?_
      refine ab rfl ?_ ?_<;>intro h
      ·repeat refine aa rfl ?_
       exact aO rfl rfl rfl
      ·exfalso
       simp at h
       exact h0 h
 ·have hie:i=l.length:=by have:=of_decide_eq_false h;omega
  clear h
  rw[hie,List.drop_length]at hF
  simp only[ct]at hF
  subst hF
  repeat refine aa rfl ?_
  exact aO rfl rfl rfl
theorem wJ (b:BR) (hb:b.Lim):Ret Tryz.prog .shared 11 [.agg (eB b)] (I (bq b)):=by
 have hw:=nQ b.a (hx:=hb.a.v) (by decide) (-1000000) 1000000 ⟨by decide,by decide⟩ ⟨by decide,by decide⟩
 have hwn:=AO (p:=b.a.val) (n:=1000000)
 have hc:=tw b.l hb.l
 generalize hE:bq b=E
 rw[bq]at hE
 generalize xG b.a.val (-1000000) 1000000=wb at *
 obtain⟨w,a,l⟩:=b
 simp only at *
 generalize bD l=ce at *
 by_cases h1:w<1
 ·rw[if_pos (.inl (.inl h1))]at hE
  subst hE
  refine Ret.of_pwp layOk mixed Go.Proofs.Tryz.func11 rfl (by decide) rfl rfl ?_
  repeat refine aa rfl ?_
  refine dr rfl rfl rfl ?_ ?_<;>intro h
  ·clear h
   repeat refine aa rfl ?_
   exact aO rfl rfl rfl
  ·exact absurd h1 (of_decide_eq_false h)
 by_cases h2:1000000000<w
 ·rw[if_pos (.inl (.inr h2))]at hE
  subst hE
  refine Ret.of_pwp layOk mixed Go.Proofs.Tryz.func11 rfl (by decide) rfl rfl ?_
  repeat refine aa rfl ?_
  refine dr rfl rfl rfl ?_ ?_<;>intro h
  ·exact absurd (of_decide_eq_true h) h1
  ·clear h
   repeat refine aa rfl ?_
   refine dr rfl rfl rfl ?_ ?_<;>intro h
   ·clear h
    repeat refine aa rfl ?_
    exact aO rfl rfl rfl
   ·exact absurd h2 (of_decide_eq_false h)
 cases wb with
 |false =>
  rw[if_pos (.inr (hwn.1 rfl))]at hE
  subst hE
  refine Ret.of_pwp layOk mixed Go.Proofs.Tryz.func11 rfl (by decide) rfl rfl ?_
  repeat refine aa rfl ?_
  refine dr rfl rfl rfl ?_ ?_<;>intro h
  ·exact absurd (of_decide_eq_true h) h1
  ·clear h
   repeat refine aa rfl ?_
   refine dr rfl rfl rfl ?_ ?_<;>intro h
   ·exact absurd (of_decide_eq_true h) h2
   ·clear h
    repeat refine aa rfl ?_
    refine aP rfl rfl rfl hw rfl rfl rfl ?_
    repeat refine aa rfl ?_
    exact aO rfl rfl rfl
 |true =>
  rw[if_neg (by
   rintro(h|h)
   ·omega
   ·exact absurd (hwn.2 h) (by decide))]at hE
  subst hE
  refine Ret.of_pwp layOk mixed Go.Proofs.Tryz.func11 rfl (by decide) rfl rfl ?_
  repeat refine aa rfl ?_
  refine dr rfl rfl rfl ?_ ?_<;>intro h
  ·exact absurd (of_decide_eq_true h) h1
  ·clear h
   repeat refine aa rfl ?_
   refine dr rfl rfl rfl ?_ ?_<;>intro h
   ·exact absurd (of_decide_eq_true h) h2
   ·clear h
    repeat refine aa rfl ?_
    refine aP rfl rfl rfl hw rfl rfl rfl ?_
    repeat refine aa rfl ?_
    refine aP rfl rfl rfl hc rfl rfl rfl ?_
    repeat refine aa rfl ?_
    exact aO rfl rfl rfl
open Go.Proofs Go.RowKit
theorem Ghost.takeD {s:St} {k g t n sz:Nat} {T:TypeId} {rows:List (List PV)} (ho:s.own k=(g,some ⟨T,sz,rows,1⟩)) (hr:s.reg t = .als k g 0 n) (hn:n=rows.length) :
  Ghost s ((s.setOwn k (g+1) none).putR t (.sl rows)):=by
 intro C a w hX ⟨γ,h⟩
 subst hn
 obtain⟨h1,hle,_⟩:=h.drop hX ho
 refine⟨γ,h1.defers,h1.size,fun r=>?_,h1.sites,h1.inj,h1.base,h1.below,h1.top,h1.kept⟩
 show Rep _ (bif Nat.beq r t then _ else(s.setOwn k (g+1) none).reg r) _
 by_cases hrt:r=t
 ·subst hrt
  have hp:=h.regs r
  rw[hr]at hp
  simp only[Nat.beq_refl,cond_true]
  refine .d ?_
  rcases h.als_at hp ho with⟨q1,_,q3,q4⟩|⟨b,cap,cur,q1,q2,q3,q4,q5,q6,q7⟩
  ·have:rows=[]:=(h.sites k _ (by rw[ho])).emp q1
   rw[this,q4]
   exact .sl0 _ _
  ·obtain⟨cur',g1,g2,g3,g4,g5⟩:=h.site_at ho q1 (h.cells_sz ho q1 q3 q6)
   have hb:(ag C γ (s.setOwn k (g+1) none) w).ok b:=by
    have hbase:=h.base k _ b (by rw[ho]) q1
    refine⟨hbase.2,fun hx=>?_,fun k' c' hc' hb'=>?_⟩
    ·have:=hX b hx;omega
    ·by_cases hk':k'=k
     ·subst hk';rw[ae]at hc';cases hc'
     ·rw[au hk']at hc'
      exact hk' (h.inj k' k c' _ b hc' (by rw[ho]) hb' q1)
   rw[q2]
   simp only[Nat.zero_mul]
   refine .sl rows b 0 cap sz (fun i j=>cur'.getD (i*sz+j) undef) hb g2 q4 g4 (fun i j row pv e1 e2=>?_) (fun i j row pv e1 e2=>?_)
   ·obtain⟨u,f1,f2,_⟩:=g5 i j row pv e1 e2
    have g1:w.heap[b]? = some (.cells cur' T (0,0)):=g1
    show w.cell? _=_∧_
    rw[aQ g1,Nat.zero_add,f1]
    simp[f1,f2]
   ·obtain⟨u,f1,_,f3⟩:=g5 i j row pv e1 e2
    have hu:cur'.getD (i*sz+j) undef=u:=by simp[f1]
    simp only[hu]
    exact hle.drep f3
 ·rw[aV hrt];exact h1.regs r
def uc (l:List Int):List RR:=l.map fun z:Int=>ofQ (z:Rat)
set_option maxRecDepth 20000 in
theorem pm (l:List Int) (hl:l.length≤1000000) (hz:∀z∈l,i64 z):Ret Tryz.prog .shared 40 [.sl (l.map eN)] (.sl ((uc l).map eR)):=by
 have hml:(l.map eN).length=l.length:=by simp
 refine Ret.of_pwp layOk mixed Go.Proofs.Tryz.func40 rfl (by decide) rfl rfl ?_
 ((repeat (first|refine aJ ?_ | refine b5 ?_ | refine bJ ?_ | refine bF ?_));refine aS ?_)
 refine ia rfl trivial ?_
 ((repeat (first|refine aJ ?_ | refine b5 ?_ | refine bJ ?_ | refine bF ?_));refine aS ?_)
 (first|refine ar (fh 26 4 1 rfl rfl ?_)|refine ar (fg 26 4 1 rfl rfl ?_))
 repeat refine aa rfl ?_
 refine am (fun k=>k≤l.length) (fun k=>[(0,.sl (l.map eN)),(3,.als 3 (k+1) 0 ((uc (l.take k)).map eR).length),(4,I (k:Nat))]) (fun k=>[(3,k+1,⟨26,4,(uc (l.take k)).map eR,1⟩)]) (fun k=>l.length-k) 0 (Nat.zero_le _) ⟨rfl,rfl,rfl,rfl,trivial⟩ ?_
 intro k s hk
 repeat refine aa rfl ?_
 refine ab rfl ?_ ?_<;>intro h
 ·have hlt:k<l.length:=by have:=of_decide_eq_true h;omega
  clear h
  obtain⟨x,hx⟩:=aL hlt
  have hxr:=bk x (hz x (List.mem_of_getElem? hx))
  have hw:=gz k
  have hwl:(uc (l.take k)).length=k:=by rw[uc,List.length_map,List.length_take];omega
  have hrows:(uc (l.take (k+1))).map eR=(uc (l.take k)).map eR++[eR (ofQ (x:Rat))]:=by rw[cb hx,uc,List.map_append,List.map_append];rfl
  repeat refine aa rfl ?_
  refine aZ rfl rfl rfl rfl rfl rfl rfl hx rfl ?_
  repeat refine aa rfl ?_
  refine ak rfl rfl rfl hxr rfl rfl ?_
  repeat refine aa rfl ?_
  refine ar (be 1 rfl rfl rfl rfl rfl rfl rfl rfl rfl rfl rfl (by repeat' constructor) rfl ?_)
  repeat refine aa rfl ?_
  refine ar (bE 1 rfl rfl rfl rfl rfl rfl rfl rfl rfl rfl rfl (by repeat' constructor) (by intro row hr;first|(simp at hr;subst hr;rfl)|simp at hr) rfl rfl (by simp;omega) (by simp;omega) ?_)
  repeat refine aa rfl ?_
  refine⟨k+1,hlt,by omega,rfl,?_,congrArg I hw,?_,trivial⟩
  ·rw[hrows];rfl
  ·rw[hrows];rfl
 ·have hge:k=l.length:=by have:=of_decide_eq_false h;omega
  subst hge
  clear h
  rw[List.take_length]
  repeat refine aa rfl ?_
  exact fP rfl rfl rfl ⟨rfl,rfl,rfl⟩ rfl
theorem sn (x:Int):WeakL ([I x]++zN++[.sl [[I 0]],.sl ((uc [2]).map eR)]) (eS (dT x)):=WeakL.append (WeakL.append (WeakL.refl _) gU) (WeakL.refl _)
theorem zt (x:Int):WeakL ([I x]++zN++[.sl [[I 0],[I 10]],.sl ((uc [5,0]).map eR)]) (eS (jL x)):=WeakL.append (WeakL.append (WeakL.refl _) gU) (WeakL.refl _)
theorem pN:∀z∈[(0:Int),1,2,5,10,25,30,40,75,80,100],i64 z:=by
 intro z hz
 simp at hz
 rcases hz with rfl|rfl|rfl|rfl|rfl|rfl|rfl|rfl|rfl|rfl|rfl<;>exact⟨by decide,by decide⟩
theorem nG (x:Int):Ret Tryz.prog .shared 38 [I x] (.agg (eS (dT x))):=by
 have h1:=pm [2] (by simp) (fun z hz=>pN z (by simp at hz;subst hz;simp))
 refine Ret.weak (r' := .agg ([I x]++zN++[.sl [[I 0]],.sl ((uc [2]).map eR)])) ?_ (WeakL.refl _) (sn x).agg
 generalize (uc [2]).map eR=W at *
 refine Ret.of_pwp layOk mixed Go.Proofs.Tryz.func38 rfl (by decide) rfl rfl ?_
 repeat refine aa rfl ?_
 refine ar (be 0 rfl rfl rfl rfl rfl rfl rfl rfl rfl rfl rfl (by repeat' constructor) rfl ?_)
 repeat refine aa rfl ?_
 refine bH rfl rfl (c8 rfl rfl rfl rfl rfl rfl rfl rfl rfl rfl (by repeat' constructor) rfl) ?_
 repeat refine aa rfl ?_
 refine ak rfl rfl rfl h1 rfl rfl ?_
 repeat refine aa rfl ?_
 exact aF rfl rfl rfl
theorem uJ (x:Int):Ret Tryz.prog .shared 39 [I x] (.agg (eS (jL x))):=by
 have h1:=pm [5,0] (by simp) (fun z hz=>pN z (by simp at hz;rcases hz with rfl|rfl<;>simp))
 refine Ret.weak (r' := .agg ([I x]++zN++[.sl [[I 0],[I 10]],.sl ((uc [5,0]).map eR)])) ?_ (WeakL.refl _) (zt x).agg
 generalize (uc [5,0]).map eR=W at *
 refine Ret.of_pwp layOk mixed Go.Proofs.Tryz.func39 rfl (by decide) rfl rfl ?_
 repeat refine aa rfl ?_
 refine ar (be 0 rfl rfl rfl rfl rfl rfl rfl rfl rfl rfl rfl (by repeat' constructor) rfl ?_)
 repeat refine aa rfl ?_
 refine bH rfl rfl (c8 rfl rfl rfl rfl rfl rfl rfl rfl rfl rfl (by repeat' constructor) rfl) ?_
 repeat refine aa rfl ?_
 refine ak rfl rfl rfl h1 rfl rfl ?_
 repeat refine aa rfl ?_
 exact aF rfl rfl rfl
theorem En:ofQ (-1/10)=⟨bO (-1),bO 10⟩:=by
 rw[l0]
 have h1:(-1/10:Rat).num = -1:=by decide +kernel
 have h2:(-1/10:Rat).den=10:=by decide +kernel
 rw[h1,h2];rfl
set_option maxRecDepth 20000 in
theorem CY:Ret Tryz.prog .shared 42 [I (-1),I 10] (.agg (eR (ofQ (-1/10)))):=by
 have h1:=pn (-1) ⟨by decide,by decide⟩
 have h2:=pn 10 ⟨by decide,by decide⟩
 rw[En]
 generalize bO (-1)=X at *
 generalize bO 10=Y at *
 refine Ret.of_pwp layOk mixed Go.Proofs.Tryz.func42 rfl (by decide) rfl rfl ?_
 repeat refine aa rfl ?_
 refine am (fun q:Nat × Nat=>q.1≤10∧q.2≤10∧Nat.gcd q.1 q.2=1) (fun q=>[(0,I (-1)),(1,I 10),(4,.ptr 4 1 0 0),(5,I (q.1:Nat)),(6,I (q.2:Nat))]) (fun _=>[(4,1,⟨26,4,[zN],2⟩)]) (fun q=>q.2) (1,10) ⟨by decide,by decide,by decide⟩ ⟨rfl,rfl,rfl,rfl,rfl,rfl,trivial⟩ ?_
 rintro⟨x,y⟩ s ⟨hx,hy,hg⟩
 simp only at hx hy hg
 dsimp only
 repeat refine aa rfl ?_
 refine ab rfl ?_ ?_<;>intro h
 ·have hy0:0<y:=by have:=of_decide_eq_true h;omega
  clear h
  have hm:=Nat.mod_lt x hy0
  repeat refine aa rfl ?_
  refine bt [] [] (by decide +kernel) ?_
  repeat refine aa rfl ?_
  refine bH rfl rfl (QOp.v rfl (show ¬((y:Nat):Int)=0 by omega)) ?_
  rw[kt]
  repeat refine aa rfl ?_
  exact⟨(y,x%y),⟨hy,by simp only;omega,by simp only;rw[Nat.gcd_comm,←Nat.gcd_rec,Nat.gcd_comm];exact hg⟩,hm,rfl,rfl,rfl,rfl,rfl,rfl,trivial⟩
 ·have hy0:y=0:=by have:=of_decide_eq_false h;omega
  subst hy0
  clear h
  rw[Nat.gcd_zero_right]at hg
  subst hg
  repeat refine aa rfl ?_
  refine ah 9 [25,26,27,28,29,30,31,32,33] (by decide +kernel) ?_
  repeat refine aa rfl ?_
  have q1:IntKind.i64.wrap (Int.tdiv (-1) ((1:Nat):Int)) = -1:=by decide
  have q2:IntKind.i64.wrap (Int.tdiv 10 ((1:Nat):Int))=10:=by decide
  refine bH rfl rfl (QOp.v rfl (show ¬((1:Nat):Int)=0 by decide)) ?_
  rw[q1]
  repeat refine aa rfl ?_
  refine ak rfl rfl rfl h1 rfl rfl ?_
  repeat refine aa rfl ?_
  refine bH rfl rfl (QOp.v rfl (show ¬((1:Nat):Int)=0 by decide)) ?_
  rw[q2]
  repeat refine aa rfl ?_
  refine ak rfl rfl rfl h2 rfl rfl ?_
  repeat refine aa rfl ?_
  exact aF rfl rfl rfl
theorem pl (z t:Rat):(bd b1).F z t=(0+if z+t*0<0 then 0 else 2*(z+t*0))+if z+t*100<0 then 0 else 2*(z+t*100):=by
 have e:(bd b1).F z t=(0+fQ (dT 0) z t)+fQ (dT 100) z t:=rfl
 rw[e,sk,sk,show((0:Int):Rat)=0 from rfl,show((100:Int):Rat)=100 from rfl]
theorem CT (z t:Rat):(bd b1).G z t=(if z+t*100<0 then 0 else 2*(z+t*100))*100:=by
 have e:(bd b1).G z t=(0+fQ (dT 0) z t*((0:Int):Rat))+fQ (dT 100) z t*((100:Int):Rat):=rfl
 rw[e,sk,sk,show((0:Int):Rat)=0 from rfl,show((100:Int):Rat)=100 from rfl]
 grind
theorem x8:(bd b1).w=40:=rfl
theorem CQ:(bd b1).A=25:=by
 show(ofQ ((25:Int):Rat)).val=25
 rw[ofQ_val];rfl
theorem CS {z t:Rat} (h:(bd b1).Least z t):(bd b1).E t=(if z+t*100<0 then 0 else 2*(z+t*100))*100-40*25:=by
 rw[Bd.E,Bd.sg_eq h,Bd.e,CT,x8,CQ]
theorem mq {z t:Rat} (h1:(bd b1).F z t=40) (h2:∀z',z'<z→(bd b1).F z' t<40):(bd b1).Least z t:=⟨h1,h2⟩
theorem Cq:(bd b1).Least 10 0:=mq (by rw[pl];grind) (fun z' h=>by rw[pl];grind)
theorem DQ:(bd b1).Least 20 (-1):=mq (by rw[pl];grind) (fun z' h=>by rw[pl];grind)
theorem DR:(bd b1).Least (-80) 1:=mq (by rw[pl];grind) (fun z' h=>by rw[pl];grind)
theorem ms {x:Int} {z t:Rat} (h:0≤z+t*(x:Rat)):ic (dT x).k.s (yQ (dT x) z t) 1=1:=by
 rw[ic,if_pos]
 show((0:Int):Rat)≤RR.zero.val+(z+t*(x:Rat))
 rw[RR.zero_val,show((0:Int):Rat)=0 from rfl]
 grind
theorem vC {x:Int} {z t:Rat} (h:0<z+t*(x:Rat)):kB (dT x).k.s (yQ (dT x) z t) 1=1:=by
 rw[kB,if_pos]
 show((0:Int):Rat)<RR.zero.val+(z+t*(x:Rat))
 rw[RR.zero_val,show((0:Int):Rat)=0 from rfl]
 grind
theorem u5 (x:Int):aI (dT x).k.m 1=2:=by
 rw[aI]
 show(ofQ ((2:Int):Rat)).val=2
 rw[ofQ_val];rfl
theorem vB {i:Nat} (hi:i<2):(bd b1).k ((bd b1).pR 10 0) i=2:=by
 rcases i with _ | _ | i
 ·show aI (dT 0).k.m (ic (dT 0).k.s (yQ (dT 0) 10 0) 1)=2
  rw[ms (by grind),u5]
 ·show aI (dT 100).k.m (ic (dT 100).k.s (yQ (dT 100) 10 0) 1)=2
  rw[ms (by grind),u5]
 ·omega
theorem x5:(bd b1).guess 10 0=some (15,-1/10):=by
 have kh:(bd b1).Kh ((bd b1).pR 10 0)=4:=by
  show 0+(bd b1).k ((bd b1).pR 10 0) 0+(bd b1).k ((bd b1).pR 10 0) 1=4
  rw[vB (by decide),vB (by decide)];grind
 have kc:(bd b1).Kc ((bd b1).pR 10 0)=200:=by
  show 0+(bd b1).k ((bd b1).pR 10 0) 0*((0:Int):Rat)+(bd b1).k ((bd b1).pR 10 0) 1*((100:Int):Rat)=200
  rw[vB (by decide),vB (by decide),show((0:Int):Rat)=0 from rfl,show((100:Int):Rat)=100 from rfl];grind
 have kp:(bd b1).Kp ((bd b1).pR 10 0)=20000:=by
  show 0+(bd b1).k ((bd b1).pR 10 0) 0*((0:Int):Rat)*((0:Int):Rat)+(bd b1).k ((bd b1).pR 10 0) 1*((100:Int):Rat)*((100:Int):Rat)=20000
  rw[vB (by decide),vB (by decide),show((0:Int):Rat)=0 from rfl,show((100:Int):Rat)=100 from rfl];grind
 have hF:(bd b1).w-(bd b1).F 10 0=0:=by rw[x8,pl];grind
 have hE : -((bd b1).e 10 0) = -1000:=by rw[Bd.e,CT,x8,CQ];grind
 have hn:Bd.newt 4 200 20000 0 (-1000)=some (5,-1/10):=by
  rw[Bd.newt,if_neg (by decide +kernel)]
  congr 2<;>decide +kernel
 have hb:(bd b1).F (10+5) (0 + -1/10)=(bd b1).w∧(bd b1).G (10+5) (0 + -1/10)=(bd b1).w*(bd b1).A:=by
  rw[pl,CT,x8,CQ]
  constructor<;>grind
 rw[Bd.guess,Bd.tryP,kh,kc,kp,hF,hE,hn]
 dsimp only
 rw[if_pos hb]
 simp only[Option.some.injEq,Prod.mk.injEq]
 constructor<;>grind
theorem DO:(bd b1).eqQ 1=some (15,-1/10):=by
 have em:(bd b1).E (-1) = -1000:=by rw[CS DQ];grind
 have ep:(bd b1).E 1=3000:=by rw[CS DR];grind
 have e0:(bd b1).E 0=1000:=by rw[CS Cq];grind
 have d1:(bd b1).dbl (-1) 1 1=some 1:=by
  rw[Bd.dbl,if_neg]
  rw[show(-1:Rat)*1 = -1 by grind,em];grind
 have d2:(bd b1).dbl 1 1 1=some 1:=by
  rw[Bd.dbl,if_neg]
  rw[show(1:Rat)*1=1 by grind,ep];grind
 have a0:(bd b1).at1 0=some (15,-1/10):=by
  rw[Bd.at1,if_neg (by rw[e0];grind),Bd.sg_eq Cq,x5]
 rw[Bd.eqQ,d1,d2]
 dsimp only
 rw[Bd.fst3,a0]
theorem DP (t:Rat):∃z,(bd b1).w≤(bd b1).F z t:=⟨20,by rw[pl,x8];grind⟩
theorem lk (t:Rat):(i9 b1.l t).length≤19:=by
 rw[i9]
 show((lq t (dT 0))++((lq t (dT 100))++[])).length≤19
 rw[lq,lq]
 simp[dT]
theorem vE:aW b1.l=[0,100]:=by
 rw[aW]
 have:cB (b1.l.map (·.x))=[0,100]:=List.mergeSort_of_pairwise (by decide)
 rw[this]
 decide
theorem x6 {x:Int} {A B:Rat} (hx:x=0∨x=100) (h:A+B*(x:Rat)≠0):m_ 15 (-1/10) A B (dT x)=false:=by
 have hy:0<(15:Rat) + -1/10*(x:Rat):=by
  rcases hx with rfl|rfl
  ·rw[show((0:Int):Rat)=0 from rfl];grind
  ·rw[show((100:Int):Rat)=100 from rfl];grind
 have hr:rV (dT x) 15 (-1/10)=2:=by
  show aI (dT x).k.m (ic (dT x).k.s (yQ (dT x) 15 (-1/10)) 1)=2
  rw[ms (by grind),u5]
 have hl:lV (dT x) 15 (-1/10)=2:=by
  show aI (dT x).k.m (kB (dT x).k.s (yQ (dT x) 15 (-1/10)) 1)=2
  rw[vC hy,u5]
 rw[m_,decide_eq_false]
 intro hn
 apply hn
 rw[hr,hl]
 rcases Classical.em (0<A+B*(x:Rat)) with g|g
 ·exact .inl ⟨g,by grind⟩
 ·exact .inr ⟨by show A+B*(x:Rat)<0;grind,by grind⟩
theorem A4 {A B:Rat} (h:A≠0∨A+B*100≠0):dM b1.l 15 (-1/10) A B=false:=by
 show(m_ 15 (-1/10) A B (dT 0)&&(m_ 15 (-1/10) A B (dT 100)&&true))=false
 rcases h with h|h
 ·rw[x6 (.inl rfl) (by rw[show((0:Int):Rat)=0 from rfl];grind),Bool.false_and]
 ·rw[x6 (x:=100) (.inr rfl) (by rw[show((100:Int):Rat)=100 from rfl];exact h),Bool.false_and,Bool.and_false]
theorem vF:cw b1 15 (-1/10)=false:=by
 rw[cw,List.any_eq_false]
 intro d hd
 have key:∀A B:Int,(A≠0∨A+B*100≠0)→¬dM b1.l 15 (-1/10) (ofQ (A:Rat)).val (ofQ (B:Rat)).val=true:=by
  intro A B h
  rw[ofQ_val,ofQ_val,A4]
  ·decide
  ·rcases h with h|h
   ·left;exact_mod_cast h
   ·right
    have:(A:Rat)+(B:Rat)*100=((A+B*100:Int):Rat):=by push_cast;rfl
    rw[this];exact_mod_cast h
 rw[dX,bI,vE]at hd
 simp at hd
 rcases hd with rfl|rfl|rfl|rfl|rfl|rfl
 ·exact key (-0) 1 (by decide)
 ·exact key (-100) 1 (by decide)
 ·exact key 0 (-1) (by decide)
 ·exact key 100 (-1) (by decide)
 ·exact key 1 0 (by decide)
 ·exact key (-1) 0 (by decide)
theorem CV:Ret Tryz.prog .shared 9 [.agg (eB b1)] (.tup [.agg (sW ⟨ofQ 15,ofQ (-1/10)⟩ [ofQ 30,ofQ 10]),.agg (zN++zN),I 0]):=by
 have hn:=vH mr (CU.2 ⟨rfl,rfl⟩)
 have h93:=fK b1 mr
 rw[cA,if_neg (by rw[hn.1];decide),List.find?_eq_none.2 (fun r hr=>by rw[hn.2 r hr];decide)]at h93
 have h120:=oh b1 mr (fun t=>Nat.le_trans (lk t) (by decide)) (fun t=>u4 _ (lk t)) DP (N:=1) (by decide) DO
 have va:Va ⟨ofQ 15,ofQ (-1/10)⟩ 15 (-1/10) 4 8:=⟨Vq.ofQ (h:=⟨q8 15 ⟨by decide,by decide⟩⟩),Vq.ofQ (h:=@HQ.div _ _ 4 4 (@HQ.neg _ _ HQ.one) ⟨q8 10 ⟨by decide,by decide⟩⟩)⟩
 have h121:=oy b1 mr ⟨ofQ 15,ofQ (-1/10)⟩ (ha:=va) (by decide)
 rw[vF]at h121
 have h23:=gH b1.l mr.lim.l mr.chkL ⟨ofQ 15,ofQ (-1/10)⟩ (ha:=va) (by decide)
 rw[vA]at h23
 exact o4 b1 mr.lim xZ h93 _ _ h120 h121 h23
theorem CX:Ret Tryz.prog .shared 9 [.agg (eB b2)] (.tup [.agg zS,.agg (eA (iJ 0)),I 13]):=by
 have h93:=fK b2 Cr
 rw[sJ]at h93
 exact jJ b2 Cr.lim x9 _ 13 (by decide) h93
set_option maxRecDepth 20000 in
theorem vz:Ret Tryz.prog .shared 7 [] (.bool true):=by
 have w25:=bk 25 ⟨by decide,by decide⟩
 have w75:=bk 75 ⟨by decide,by decide⟩
 have w0:=bk 0 ⟨by decide,by decide⟩
 have w1:=bk 1 ⟨by decide,by decide⟩
 have s0:=nG 0
 have s1:=nG 100
 have p0:=uJ 0
 have p1:=uJ 100
 have hs:=CV
 have hp:=CX
 have hws:=pm [30,10] (by simp) (fun z hz=>pN z (by simp at hz;rcases hz with rfl|rfl<;>simp))
 have hq:=CY
 have e1:=jG [ofQ 30,ofQ 10] (by simp) (fun x hx=>by
  simp at hx
  rcases hx with rfl|rfl
  ·have:=(vI (z:=30) ⟨by decide,by decide⟩).sz
   exact⟨Nat.le_trans this.1 (by decide),Nat.le_trans this.2 (by decide)⟩
  ·have:=(vI (z:=10) ⟨by decide,by decide⟩).sz
   exact⟨Nat.le_trans this.1 (by decide),Nat.le_trans this.2 (by decide)⟩)
 have e2:=ny (p := -1/10) (n:=8) (@HQ.div _ _ 4 4 (@HQ.neg _ _ HQ.one) ⟨q8 10 ⟨by decide,by decide⟩⟩) (by decide)
 have e3:=ny (p:=((0:Int):Rat)) ⟨q8 0 ⟨by decide,by decide⟩⟩ (by decide)
 have e4:=ny (p:=((1:Int):Rat)) ⟨q8 1 ⟨by decide,by decide⟩⟩ (by decide)
 have hb1:eB b1=I 40::(eR (ofQ ((25:Int):Rat))++[.sl [eS (dT 0),eS (dT 100)]]):=rfl
 have hb2:eB b2=I 80::(eR (ofQ ((75:Int):Rat))++[.sl [eS (jL 0),eS (jL 100)]]):=rfl
 rw[hb1]at hs
 rw[hb2]at hp
 rw[show uc [30,10]=[ofQ 30,ofQ 10] from rfl]at hws
 rw[show iJ 0=⟨ofQ ((0:Int):Rat),ofQ ((1:Int):Rat)⟩ from rfl]at hp
 have hzA:eA zA=eR RR.zero++eR RR.zero:=rfl
 clear hb1 hb2
 generalize ofQ ((25:Int):Rat)=W25 at *
 generalize ofQ ((75:Int):Rat)=W75 at *
 generalize ofQ ((0:Int):Rat)=W0 at *
 generalize ofQ ((1:Int):Rat)=W1 at *
 generalize ofQ (-1/10:Rat)=WT at *
 generalize ofQ (15:Rat)=W15 at *
 generalize [ofQ (30:Rat),ofQ (10:Rat)]=WF at *
 refine Ret.of_pwp layOk mixed Go.Proofs.Tryz.func7 rfl (by decide) rfl rfl ?_
 ((repeat ((fail_if_success (with_reducible refine aT 1 ?_));refine dh rfl ?_));refine aG 4 ?_)
 refine ak rfl rfl rfl w25 rfl rfl ?_
 refine ak rfl rfl rfl s0 rfl rfl ?_
 refine ak rfl rfl rfl s1 rfl rfl ?_
 refine ar (be 1 rfl rfl rfl rfl rfl rfl rfl rfl rfl rfl rfl (by repeat' constructor) rfl ?_)
 refine aJ ?_
 refine a_ rfl (c9 (Ghost.takeD (k:=11) (t:=11) rfl rfl rfl) (BG rfl ⟨trivial,trivial,trivial⟩ ?_))
 refine aM ?_
 refine ak rfl rfl rfl hs rfl rfl ?_
 ((repeat ((fail_if_success (with_reducible refine aT 2 ?_));refine dh rfl ?_));refine aG 4 ?_)
 refine ak rfl rfl rfl w75 rfl rfl ?_
 refine ak rfl rfl rfl p0 rfl rfl ?_
 refine ak rfl rfl rfl p1 rfl rfl ?_
 refine ar (be 1 rfl rfl rfl rfl rfl rfl rfl rfl rfl rfl rfl (by repeat' constructor) rfl ?_)
 refine aJ ?_
 refine a_ rfl (c9 (Ghost.takeD (k:=21) (t:=21) rfl rfl rfl) (BG rfl ⟨trivial,trivial,trivial⟩ ?_))
 refine aM ?_
 refine ak rfl rfl rfl hp rfl rfl ?_
 repeat refine aa rfl ?_
 refine ah 32 [27,28,29,30,31,32,33,34,35,36,37,38,39,40,41,42,43,44,45,46,47,48,49,50,51,52,53,54,55,56,57,58] (by decide +kernel) ?_
 repeat refine aa rfl ?_
 refine bH rfl rfl (c8 rfl rfl rfl rfl rfl rfl rfl rfl rfl rfl (by repeat' constructor) rfl) ?_
 repeat refine aa rfl ?_
 refine ak rfl rfl rfl hws rfl rfl ?_
 repeat refine aa rfl ?_
 refine aP rfl rfl rfl e1 rfl rfl rfl ?_
 repeat refine aa rfl ?_
 refine ak rfl rfl rfl hq rfl rfl ?_
 repeat refine aa rfl ?_
 refine aP rfl rfl rfl e2 rfl rfl rfl ?_
 repeat refine aa rfl ?_
 refine ak rfl rfl rfl w0 rfl rfl ?_
 repeat refine aa rfl ?_
 refine aP rfl rfl rfl e3 rfl rfl rfl ?_
 repeat refine aa rfl ?_
 refine ak rfl rfl rfl w1 rfl rfl ?_
 repeat refine aa rfl ?_
 refine aP rfl rfl rfl e4 rfl rfl rfl ?_
 repeat refine aa rfl ?_
 exact bi rfl rfl rfl
end Go.Pv
namespace Go.Pv
open Go.RowKit Go.ChangeShapes Go.WideShapes Go.ChangeAt
section
variable {H:Type} {enc:TypeId × Value→H} {P:Program} {L:Lay} {w:World} {sp:Nat→Bool} {held:Bool}
def argW (L:Lay) (T:TypeId) (c:PV):Prop:=match L T with
 |some r=>bif r.sh.agg then ∃cs,c = .agg cs∧kE L 12 T cs else kE L 12 T [c]
 |none=>False
theorem xY (hL:fX P L) {base:Nat} {T:TypeId} {v:Value} {d:DataW H} {ps:List MemPlace} (hp:fk L 12 T=true) (h:DataW.Trod enc P w 0 sp held T v d ps) (hok:Value.okWide P w .any base T v):∃c,DRep w (fun b=>b<w.heap.size) c v∧argW L T c:=by
 obtain⟨fuel,h⟩:=h
 obtain⟨pvs,h1,h2⟩:=nK hL 12 T _ fuel _ hp h
 have hp':=hp
 simp only[fk]at hp
 split at hp
 ·rename_i r hr
  have hfit:=hL T r hr
  have leaf:r.sh.agg=false→(∃c,pvs=[c])→(v.cells.toList.length=1→v.cells=#[v])→∃c,DRep w (fun b=>b<w.heap.size) c v∧argW L T c:=by
   rintro ha ⟨c,rfl⟩ hv
   have hc:=hv (by rw[←h1.1];rfl)
   have hd:=h1.2 0 c v rfl (by rw[hc];rfl)
   refine⟨c,hd.1,?_⟩
   unfold argW
   rw[hr]
   simp only[ha,cond_false]
   exact h2
  have nagg:(∀cs,v ≠ .agg cs)→v.cells=#[v]:=by
   intro h
   cases v<;>first|rfl|exact absurd rfl (h _)
  have hty:∃r',L T=some r'∧_:=h2
  obtain⟨r',hr',hty⟩:=hty
  rw[hr]at hr'
  have hr':=Option.some.inj hr'
  subst hr'
  split at hp
  ·rename_i hs
   rw[hs]at hty
   obtain⟨b,rfl⟩:=hty
   obtain⟨b',rfl⟩:∃b',v = .bool b':=by
    have:=okWide_bool (nN hfit hs) hok;exact this
   exact leaf (by rw[hs];rfl) ⟨_,rfl⟩ (fun _=>rfl)
  ·rename_i k hs
   rw[hs]at hty
   obtain⟨m,rfl,_⟩:=hty
   obtain⟨m',rfl⟩:=okWide_int (kx hfit hs) hok
   exact leaf (by rw[hs];rfl) ⟨_,rfl⟩ (fun _=>rfl)
  ·rename_i hs
   rw[hs]at hty
   obtain⟨s,rfl,_⟩:=hty
   obtain⟨s',rfl⟩:=okWide_string (i2 hfit hs) hok
   exact leaf (by rw[hs];rfl) ⟨_,rfl⟩ (fun _=>rfl)
  ·rename_i e hs
   rw[hs]at hty
   obtain⟨rows,rfl,_⟩:=hty
   obtain⟨a,l,c,rfl⟩:=okWide_slice (fA hfit hs) hok
   exact leaf (by rw[hs];rfl) ⟨_,rfl⟩ (fun _=>rfl)
  ·rename_i fs hs
   obtain⟨fs',hu,_⟩:=nO hfit hs
   obtain⟨cs,rfl,_⟩:=okWide_struct hu hok
   refine⟨.agg pvs,?_,?_⟩
   ·have:=DRep.agg (w:=w) (ok:=fun b=>b<w.heap.size) pvs cs.toList h1.1 (fun i c v e1 e2=>(h1.2 i c v e1 e2).1)
    simpa using this
   ·unfold argW
    rw[hr]
    simp only[hs,Sh.agg,cond_true]
    exact⟨pvs,rfl,h2⟩
  ·cases hp
 ·cases hp
theorem n5 (hL:fX P L) {base:Nat}:∀(ts:List TypeId) (vs:List Value) (ds:List (DataW H)) (ps:List MemPlace),ts.all (fk L 12)=true→DataW.TrodAll enc P w 0 sp held ts vs ds ps →
  (∀(j:Nat) t v,ts[j]? = some t→vs[j]? = some v→Value.okWide P w .any base t v) →
  ∃pargs:List PV,pargs.length=vs.length∧ts.length=vs.length∧ds.length=vs.length∧(∀(i:Nat) (c:PV) (v:Value),pargs[i]? = some c→vs[i]? = some v→DRep w (fun b=>b<w.heap.size) c v)∧∀(i:Nat) t c,ts[i]? = some t→pargs[i]? = some c→argW L t c
 |[],vs,ds,ps,_,h,_=>by
  obtain⟨rfl,rfl,_⟩:=trodAll_nil h
  exact⟨[],rfl,rfl,rfl,fun i c v e=>by simp at e,fun i t c e=>by simp at e⟩
 |t::ts,vs,ds,ps,hp,h,hok=>by
  obtain⟨v,vs',d,ds',p,q,rfl,rfl,rfl,h1,h2⟩:=trodAll_cons h
  simp only[List.all_cons,Bool.and_eq_true]at hp
  obtain⟨c,g1,g2⟩:=xY hL hp.1 h1 (hok 0 t v rfl rfl)
  obtain⟨pargs,e1,e2,e3,e4,e5⟩:=n5 hL ts vs' ds' q hp.2 h2 (fun j t v a b=>hok (j+1) t v (by simpa using a) (by simpa using b))
  refine⟨c::pargs,by simp[e1],by simp[e2],by simp[e3],fun i c' v' a b=>?_,fun i t' c' a b=>?_⟩
  ·cases i with
   |zero=>simp at a b;subst a;subst b;exact g1
   |succ i=>exact e4 i c' v' (by simpa using a) (by simpa using b)
  ·cases i with
   |zero=>simp at a b;subst a;subst b;exact g2
   |succ i=>exact e5 i t' c' (by simpa using a) (by simpa using b)
theorem law_stepW [Globs] (hL:fX P L) (hl:laidOutB P=true) {f:FuncId} {fn:Func} {s:ChangeSpec} {ts:List TypeId} {T:TypeId} (hvars:s.vars=[]) (hts:fn.params.toList=ts) (hplain:ts.all (fk L 12)=true)
  (hread:ts.all (fun t=>P.readableRec t&&decide (t<P.types.size))=true) (hres:fn.resultTypes=#[T]) (hT:P.underlying T=some .bool)
  (hspec:∀ds:List (DataW H),ds.length=ts.length→(s.fn H ds).results=[.lit (.bool true)]∧(s.fn H ds).args=ds∧(s.fn H ds).vars=[])
  (law:∀pargs:List PV,pargs.length=ts.length→(∀(i:Nat) t c,ts[i]? = some t→pargs[i]? = some c→argW L t c)→Ret P .shared f pargs (.bool true))
  {W:World} {base:Nat} {args:Array Value} {ds gs:List (DataW H)} {before:List MemPlace} (hval:∀(j:Nat) t v,fn.params[j]? = some t→args[j]? = some v→Value.okWide P W .any base t v)
  (hglob:Globs.glob W) (hW:DataW.Whole enc P fn.params.toList s.vars false W args.toList ds gs before) :
  Calls P f args W fun e W'=>∃v,e = .returned v∧s.post enc P fn false true false false W args v W':=by
 have hW':=hW
 obtain⟨p,q,hA,hV,hpq,hfz,hnd⟩:=hW
 rw[hvars]at hV
 obtain⟨rfl,rfl⟩:=trodVars_none hV
 rw[hts]at hA
 obtain⟨pargs,e1,e2,e3,e4,e5⟩:=n5 hL (base:=base) ts _ _ _ hplain hA (fun j t v a b=>hval j t v (by rw[←hts]at a;simpa using a) (by simpa using b))
 have hret:=law pargs (by omega) e5
 have hcall:=hret.2 W (fun _=>False) args.toList hglob (fun b hb=>hb.elim) (by omega) (fun i c v a b=>(e4 i c v a b).weaken fun b hb=>⟨hb,fun h=>h⟩)
 have hargs:args.toList.toArray=args:=by simp
 rw[hargs]at hcall
 refine hcall.mono ?_
 rintro e W' ⟨v,rfl,hb,hd⟩
 refine⟨v,rfl,?_⟩
 have hv:v = .bool true:=by cases hd;rfl
 subst hv
 have hlt:∀x∈p,x.block<W.heap.size:=fun x hx=>by
  have:=hW'.lt x (by rw[hpq];simp[hx])
  simpa using this
 obtain⟨s1,s2,s3⟩:=hspec ds (by omega)
 have hgs:ds++([]:List (DataW H))=ds:=List.append_nil ds
 refine⟨ds,[],before,[],p,[],hW',?_,?_,?_,World.keptBut_mono (fun x hx=>hx.elim) (hb.frame (fun _=>False)),fun h=>by cases h⟩
 ·rw[hgs,s1,hres]
  exact trodAll_mk1 (shut_bool hT true)
 ·rw[hgs,s2,hts]
  exact jd hl hb ts _ _ _ (fun t ht=>by
   have:=List.all_eq_true.1 hread t ht
   simpa using this) hA hlt
 ·rw[hgs,s3,hvars]
  exact rfl
end
end Go.Pv
set_option maxHeartbeats 2000000
namespace Go.Pv
attribute [local irreducible] PWP POps PQuiet PSem ax ao aj ai
open Go.Proofs
theorem gp {α:Type} {f:α→List PV} {p:α→Prop}:∀ {rows:List (List PV)},(∀row∈rows,∃x,row=f x∧p x)→∃l:List α,rows=l.map f∧∀x∈l,p x
 |[],_=>⟨[],rfl,fun x h=>by cases h⟩
 |row::rows,h=>by
  obtain⟨x,rfl,hx⟩:=h row (by simp)
  obtain⟨l,rfl,hl⟩:=gp (rows:=rows) fun r hr=>h r (by simp[hr])
  exact⟨x::l,rfl,fun y hy=>by
   rcases List.mem_cons.1 hy with rfl|hy
   ·exact hx
   ·exact hl y hy⟩
theorem y8 {n:Nat} (h:n≤maxLen):n≤9223372036854775807:=by
 have e:maxLen=9223372036854775807:=by decide
 omega
theorem yq {n:Nat} {cs:List PV} (h:kE lay.get (n+2) 22 cs):∃l:List UInt16,cs=[.sl (l.map eU)]:=by
 obtain⟨rows,rfl,hr⟩:=Ds h rfl
 obtain⟨l,rfl,-⟩:=gp (f:=eU) (p:=fun _=>True) fun row hrow=>by
  obtain⟨m,rfl,h1,h2⟩:=sy (hr row hrow) rfl
  have h1:(0:Int)≤m:=h1
  have h2:m≤(65535:Int):=h2
  refine⟨UInt16.ofNat m.toNat,?_,trivial⟩
  rw[eU,aN]
  congr 2
  omega
 exact⟨l,rfl⟩
theorem Cs {n:Nat} {cs:List PV} (h:kE lay.get (n+3) 24 cs):∃a:RI,cs=eI a:=by
 obtain⟨parts,rfl,hl,hp⟩:=nL h rfl
 match parts,hl,hp with
 |[p0,p1],_,hp =>
  obtain⟨b,rfl⟩:=AM (hp 0 _ p0 rfl rfl) rfl
  obtain⟨l,rfl⟩:=yq (hp 1 _ p1 rfl rfl)
  exact⟨⟨b,l⟩,rfl⟩
theorem yo {n:Nat} {cs:List PV} (h:kE lay.get (n+4) 26 cs):∃a:RR,cs=eR a:=by
 obtain⟨parts,rfl,hl,hp⟩:=nL h rfl
 match parts,hl,hp with
 |[p0,p1],_,hp =>
  obtain⟨a,rfl⟩:=Cs (hp 0 _ p0 rfl rfl)
  obtain⟨b,rfl⟩:=Cs (hp 1 _ p1 rfl rfl)
  exact⟨⟨a,b⟩,rfl⟩
theorem pA {n:Nat} {cs:List PV} (h:kE lay.get (n+1) 3 cs):∃z:Int,cs=eN z∧i64 z:=by
 obtain⟨m,rfl,h1,h2⟩:=sy h rfl
 exact⟨m,rfl,h1,h2⟩
theorem yp {n:Nat} {cs:List PV} (h:kE lay.get (n+2) 67 cs):∃l:List Int,cs=[.sl (l.map eN)]∧l.length≤9223372036854775807∧∀z∈l,i64 z:=by
 obtain⟨rows,rfl,hlen,hr⟩:=mc h rfl
 obtain⟨l,rfl,hz⟩:=gp (f:=eN) (p:=i64) fun row hrow=>pA (hr row hrow)
 exact⟨l,rfl,by rw[List.length_map]at hlen;exact y8 hlen,hz⟩
theorem C6 {n:Nat} {cs:List PV} (h:kE lay.get (n+5) 34 cs):∃l:List RR,cs=[.sl (l.map eR)]∧l.length≤9223372036854775807:=by
 obtain⟨rows,rfl,hlen,hr⟩:=mc h rfl
 obtain⟨l,rfl,-⟩:=gp (f:=eR) (p:=fun _=>True) fun row hrow=>by
  obtain⟨a,rfl⟩:=yo (hr row hrow)
  exact⟨a,rfl,trivial⟩
 exact⟨l,rfl,by rw[List.length_map]at hlen;exact y8 hlen⟩
theorem DW {n:Nat} {cs:List PV} (h:kE lay.get (n+6) 69 cs):∃c:CR,cs=eC c∧c.S.length≤9223372036854775807∧c.M.length≤9223372036854775807∧∀z∈c.S,i64 z:=by
 obtain⟨parts,rfl,hl,hp⟩:=nL h rfl
 match parts,hl,hp with
 |[p0,p1],_,hp =>
  obtain⟨S,rfl,h1,h2⟩:=yp (hp 0 _ p0 rfl rfl)
  obtain⟨M,rfl,h3⟩:=C6 (hp 1 _ p1 rfl rfl)
  exact⟨⟨S,M⟩,rfl,h1,h3,h2⟩
theorem DY {n:Nat} {cs:List PV} (h:kE lay.get (n+7) 71 cs):∃s:SR,cs=eS s∧(xQ s∧s.k.S.length≤9223372036854775807∧s.k.M.length≤9223372036854775807):=by
 obtain⟨parts,rfl,hl,hp⟩:=nL h rfl
 match parts,hl,hp with
 |[p0,p1,p2],_,hp =>
  obtain⟨x,rfl,hx⟩:=pA (hp 0 _ p0 rfl rfl)
  obtain⟨c,rfl⟩:=yo (hp 1 _ p1 rfl rfl)
  obtain⟨k,rfl,h1,h2,h3⟩:=DW (hp 2 _ p2 rfl rfl)
  exact⟨⟨x,c,k⟩,by simp[eS,eN],⟨hx,h3⟩,h1,h2⟩
theorem DX {n:Nat} {cs:List PV} (h:kE lay.get (n+8) 27 cs):∃l:List SR,cs=[.sl (l.map eS)]∧AY l∧qC l:=by
 obtain⟨rows,rfl,hlen,hr⟩:=mc h rfl
 obtain⟨l,rfl,hz⟩:=gp (f:=eS) (p:=fun s=>xQ s∧s.k.S.length≤9223372036854775807∧s.k.M.length≤9223372036854775807) fun row hrow=>DY (hr row hrow)
 exact⟨l,rfl,⟨by rw[List.length_map]at hlen;exact y8 hlen,fun s hs=>(hz s hs).2⟩,fun s hs=>(hz s hs).1⟩
structure ArgB (b:BR):Prop where
 w:i64 b.w
 len:AY b.l
 data:qC b.l
theorem dec_B {c:PV} (h:argW lay.get 29 c):∃b:BR,c = .agg (eB b)∧ArgB b:=by
 obtain⟨cs,rfl,h⟩:∃cs,c = .agg cs∧kE lay.get 12 29 cs:=h
 obtain⟨parts,rfl,hl,hp⟩:=nL h rfl
 match parts,hl,hp with
 |[p0,p1,p2],_,hp =>
  obtain⟨w,rfl,hw⟩:=pA (hp 0 _ p0 rfl rfl)
  obtain⟨a,rfl⟩:=yo (hp 1 _ p1 rfl rfl)
  obtain⟨l,rfl,h1,h2⟩:=DX (hp 2 _ p2 rfl rfl)
  exact⟨⟨w,a,l⟩,by simp[eB,eN],hw,h1,h2⟩
end Go.Pv
