/- Texts of one hand, gathered: FcZ, FdA, FdB, FdC, FdD, FdE, FdF, FdG, FdH, FdI, FdK, FdL, FmK, FdN, FmL, FdT, FdO, FdP, FdQ, FdR, FdS, FdU, FdM, FsA, FsB, FsC, FsD, PvXw, FsE. -/
import Derived.Test.YtcnpaheefnefoaaGreatBa4
set_option linter.unusedSectionVars false
set_option linter.unusedSimpArgs false
set_option linter.unusedVariables false
set_option linter.unnecessarySimpa false
set_option maxHeartbeats 2000000
namespace Go.Pv
attribute [local irreducible] PWP POps PQuiet PSem ar ao ai ah
open Go.Proofs
def wB (b:BR) (z t:Rat):Option (Rat × Rat)→Option (Rat × Rat)
 |none=>none
 |some d=>if (bd b).Bal (z+d.1) (t+d.2) then some (z+d.1,t+d.2) else none
def CV (b:BR) (z t:Rat) (p:Nat→Nat):Option (Rat × Rat):=Bd.newt ((bd b).Kh p) ((bd b).Kc p) ((bd b).Kp p) ((bd b).w-(bd b).F z t) (-((bd b).e z t))
theorem ur (b:BR) (z t:Rat) (p:Nat→Nat):(bd b).tryP z t p=wB b z t (CV b z t p):=by
 rw[Bd.tryP,CV]
 cases Bd.newt ((bd b).Kh p) ((bd b).Kc p) ((bd b).Kp p) ((bd b).w-(bd b).F z t) (-((bd b).e z t))<;>rfl
set_option maxRecDepth 20000 in
theorem u9 (b:BR) (hb:b.Ok) (a:AR) {z t:Rat} {n m:Nat} [ha:Va a z t n m] (hn:n+m≤50000):Ret Tryz.prog .shared 100 [.agg (eB b),.agg (eA a)] (BI ((bd b).guess z t)):=by
 have h1:=jo b.l hb.lim.l hb.chkL hb.few a (by omega)
 have h2:=aL b.w hb.lim.w
 have zw:Zb b.w:=aN hb.lim.w.1 hb.lim.w.2
 have v1:Vq (ofQ (ag (fI b.l z t) b.l.length)) (ag (fI b.l z t) b.l.length) (96*(n+1+(m+1)+60)+200):=Vq.ofQ (h:=B5 hb.lim.l hb.few ha.z.hq ha.t.hq)
 have h3:=j3 (ofQ (b.w:Rat)) (ofQ (ag (fI b.l z t) b.l.length)) (hy:=v1) (by decide) (by omega)
 rw[show(b.w:Rat)-ag (fI b.l z t) b.l.length=(bd b).w-(bd b).F z t from rfl]at h3
 have h4:=mc b hb a (by omega)
 have v4:Vq (ofQ ((bd b).e z t)) ((bd b).e z t) (96*(n+1+(m+1)+60)+200+17+1):=Vq.ofQ (h:=Cp hb ha.z.hq ha.t.hq)
 have h5:=Dx (ofQ ((bd b).e z t)) (hx:=v4) (by omega)
 have h6:=kD a
 have h7:=qE a
 have sR:=mZ b hb a (z:=z) (t:=t) (by omega)
 have sL:=s_ b hb a (z:=z) (t:=t) (by omega)
 have cR:=DM b hb a ha hn (BO hb z t)
 have cL:=DM b hb a ha hn (BK hb z t)
 rw[show Bd.newt ((bd b).Kh ((bd b).pR z t)) ((bd b).Kc ((bd b).pR z t)) ((bd b).Kp ((bd b).pR z t)) ((bd b).w-(bd b).F z t) (-((bd b).e z t))=CV b z t ((bd b).pR z t) from rfl]at cR
 rw[show Bd.newt ((bd b).Kh ((bd b).pL z t)) ((bd b).Kc ((bd b).pL z t)) ((bd b).Kp ((bd b).pL z t)) ((bd b).w-(bd b).F z t) (-((bd b).e z t))=CV b z t ((bd b).pL z t) from rfl]at cL
 generalize hG:(bd b).guess z t=G
 rw[Bd.guess,ur,ur]at hG
 generalize hPR:(bd b).pR z t=pR at *
 generalize hPL:(bd b).pL z t=pL at *
 obtain⟨m1,m2,m3⟩:=cR
 obtain⟨l1,l2,l3⟩:=cL
 generalize CV b z t pR=oR at *
 generalize CV b z t pL=oL at *
 rw[DH]at sR sL m1 l1
 generalize ofQ ((bd b).Kh pR)=R1 at *
 generalize ofQ ((bd b).Kc pR)=R2 at *
 generalize ofQ ((bd b).Kp pR)=R3 at *
 generalize ofQ ((bd b).Kh pL)=L1 at *
 generalize ofQ ((bd b).Kc pL)=L2 at *
 generalize ofQ ((bd b).Kp pL)=L3 at *
 generalize ofQ ((bd b).w-(bd b).F z t)=FO at *
 generalize ofQ (-((bd b).e z t))=MO at *
 generalize ofQ ((bd b).e z t)=EX at *
 generalize ofQ (ag (fI b.l z t) b.l.length)=TF at *
 generalize ofQ (ag (gI b.l z t) b.l.length)=TG at *
 refine Ret.of_pwp layOk mixed Go.Proofs.Tryz.func100 rfl (by decide) rfl rfl ?_
 repeat refine aa rfl ?_
 refine am rfl rfl rfl h1 rfl rfl ?_
 repeat refine aa rfl ?_
 refine aM 6 1 [21,22,23,24,25,26,8] [] (by decide +kernel) rfl ?_
 repeat refine aa rfl ?_
 refine am rfl rfl rfl h2 rfl rfl ?_
 repeat refine aa rfl ?_
 refine am rfl rfl rfl h3 rfl rfl ?_
 repeat refine aa rfl ?_
 refine am rfl rfl rfl h4 rfl rfl ?_
 repeat refine aa rfl ?_
 refine am rfl rfl rfl h5 rfl rfl ?_
 repeat refine aa rfl ?_
 refine bC [35] [4,5] (by decide +kernel) ?_
 repeat refine aa rfl ?_
 refine am rfl rfl rfl h6 rfl rfl ?_
 repeat refine aa rfl ?_
 refine am rfl rfl rfl h7 rfl rfl ?_
 repeat refine aa rfl ?_
 refine B1 rfl rfl rfl (bt 2 rfl rfl rfl rfl rfl rfl rfl rfl rfl rfl rfl (by repeat' constructor) rfl ⟨sC rfl,?_⟩)
 repeat refine aa rfl ?_
 refine aq (fun i:Nat=>(i=0∧(match wB b z t oR with|some x=>some x|none=>wB b z t oL)=G)∨(i=1∧wB b z t oL=G)∨(i=2∧G=none)) (fun i=>[(2,.ptr 2 1 0 0),(3,.ptr 3 1 0 0),(4,.ptr 4 1 0 0),(8,.ptr 8 1 0 0),(9,.ptr 9 1 0 0),(35,.als 35 1 0 2),(36,I 2),(37,I (i:Nat))])
  (fun _=>[(2,1,⟨29,6,[eB b],2⟩),(3,1,⟨33,8,[eA a],2⟩),(4,1,⟨33,8,[zN++zN],2⟩),(8,1,⟨26,4,[eR FO],2⟩),(9,1,⟨26,4,[eR MO],2⟩),(35,1,⟨128,1,[[.clo 139 [.dref (eA a) 0]],[.clo 204 [.dref (eA a) 0]]],2⟩)]) (fun i=>2-i) 0 (.inl ⟨rfl,hG⟩) ⟨rfl,rfl,rfl,rfl,rfl,rfl,rfl,rfl,rfl,rfl,rfl,rfl,rfl,rfl,trivial⟩ ?_
 intro i s hi
 rcases hi with⟨rfl,hG⟩|⟨rfl,hG⟩|⟨rfl,hG⟩
 ·cases oR with
  |none =>
   repeat refine aa rfl ?_
   refine br rfl rfl (bb rfl rfl rfl rfl rfl rfl rfl (by decide) (by decide)) ?_
   repeat refine aa rfl ?_
   refine bC [12] [10,11] (by decide +kernel) ?_
   repeat refine aa rfl ?_
   refine am rfl rfl rfl sR rfl rfl ?_
   repeat refine aa rfl ?_
   refine am rfl rfl rfl m1 rfl rfl ?_
   repeat refine aa rfl ?_
   refine ak 8 [51,52,53,54,55,56,57,58] (by decide +kernel) ?_
   repeat refine aa rfl ?_
   exact⟨1,.inr (.inl ⟨rfl,hG⟩),by decide,rfl,rfl,rfl,rfl,rfl,rfl,rfl,rfl,rfl,rfl,rfl,rfl,rfl,rfl,trivial⟩
  |some d =>
   have k1:=m2 d rfl
   have k2:=m3 d rfl
   rw[i5]at m1
   rw[wB]at hG
   by_cases hbal:(bd b).Bal (z+d.1) (t+d.2)
   ·rw[decide_eq_true hbal]at k2
    rw[if_pos hbal]at hG
    try simp only at hG
    subst hG
    rw[BI]
    dsimp only
    generalize ofQ (z+d.1)=Y1 at *
    generalize ofQ (t+d.2)=Y2 at *
    generalize ofQ d.1=Y3 at *
    generalize ofQ d.2=Y4 at *
    repeat refine aa rfl ?_
    refine br rfl rfl (bb rfl rfl rfl rfl rfl rfl rfl (by decide) (by decide)) ?_
    repeat refine aa rfl ?_
    refine bC [12] [10,11] (by decide +kernel) ?_
    repeat refine aa rfl ?_
    refine am rfl rfl rfl sR rfl rfl ?_
    repeat refine aa rfl ?_
    refine am rfl rfl rfl m1 rfl rfl ?_
    repeat refine aa rfl ?_
    refine ak 8 [51,52,53,54,55,56,57,58] (by decide +kernel) ?_
    repeat refine aa rfl ?_
    refine am rfl rfl rfl k1 rfl rfl ?_
    repeat refine aa rfl ?_
    refine aS rfl rfl rfl k2 rfl rfl rfl ?_
    repeat refine aa rfl ?_
    refine am rfl rfl rfl k1 rfl rfl ?_
    repeat refine aa rfl ?_
    exact aG rfl rfl rfl
   ·rw[decide_eq_false hbal]at k2
    rw[if_neg hbal]at hG
    try simp only at hG
    generalize ofQ (z+d.1)=Y1 at *
    generalize ofQ (t+d.2)=Y2 at *
    generalize ofQ d.1=Y3 at *
    generalize ofQ d.2=Y4 at *
    repeat refine aa rfl ?_
    refine br rfl rfl (bb rfl rfl rfl rfl rfl rfl rfl (by decide) (by decide)) ?_
    repeat refine aa rfl ?_
    refine bC [12] [10,11] (by decide +kernel) ?_
    repeat refine aa rfl ?_
    refine am rfl rfl rfl sR rfl rfl ?_
    repeat refine aa rfl ?_
    refine am rfl rfl rfl m1 rfl rfl ?_
    repeat refine aa rfl ?_
    refine ak 8 [51,52,53,54,55,56,57,58] (by decide +kernel) ?_
    repeat refine aa rfl ?_
    refine am rfl rfl rfl k1 rfl rfl ?_
    repeat refine aa rfl ?_
    refine aS rfl rfl rfl k2 rfl rfl rfl ?_
    repeat refine aa rfl ?_
    exact⟨1,.inr (.inl ⟨rfl,hG⟩),by decide,rfl,rfl,rfl,rfl,rfl,rfl,rfl,rfl,rfl,rfl,rfl,rfl,rfl,rfl,trivial⟩
 ·cases oL with
  |none =>
   repeat refine aa rfl ?_
   refine br rfl rfl (bb rfl rfl rfl rfl rfl rfl rfl (by decide) (by decide)) ?_
   repeat refine aa rfl ?_
   refine bC [12] [10,11] (by decide +kernel) ?_
   repeat refine aa rfl ?_
   refine am rfl rfl rfl sL rfl rfl ?_
   repeat refine aa rfl ?_
   refine am rfl rfl rfl l1 rfl rfl ?_
   repeat refine aa rfl ?_
   refine ak 8 [51,52,53,54,55,56,57,58] (by decide +kernel) ?_
   repeat refine aa rfl ?_
   exact⟨2,.inr (.inr ⟨rfl,hG.symm⟩),by decide,rfl,rfl,rfl,rfl,rfl,rfl,rfl,rfl,rfl,rfl,rfl,rfl,rfl,rfl,trivial⟩
  |some d =>
   have k1:=l2 d rfl
   have k2:=l3 d rfl
   rw[i5]at l1
   rw[wB]at hG
   by_cases hbal:(bd b).Bal (z+d.1) (t+d.2)
   ·rw[decide_eq_true hbal]at k2
    rw[if_pos hbal]at hG
    try simp only at hG
    subst hG
    rw[BI]
    dsimp only
    generalize ofQ (z+d.1)=Y1 at *
    generalize ofQ (t+d.2)=Y2 at *
    generalize ofQ d.1=Y3 at *
    generalize ofQ d.2=Y4 at *
    repeat refine aa rfl ?_
    refine br rfl rfl (bb rfl rfl rfl rfl rfl rfl rfl (by decide) (by decide)) ?_
    repeat refine aa rfl ?_
    refine bC [12] [10,11] (by decide +kernel) ?_
    repeat refine aa rfl ?_
    refine am rfl rfl rfl sL rfl rfl ?_
    repeat refine aa rfl ?_
    refine am rfl rfl rfl l1 rfl rfl ?_
    repeat refine aa rfl ?_
    refine ak 8 [51,52,53,54,55,56,57,58] (by decide +kernel) ?_
    repeat refine aa rfl ?_
    refine am rfl rfl rfl k1 rfl rfl ?_
    repeat refine aa rfl ?_
    refine aS rfl rfl rfl k2 rfl rfl rfl ?_
    repeat refine aa rfl ?_
    refine am rfl rfl rfl k1 rfl rfl ?_
    repeat refine aa rfl ?_
    exact aG rfl rfl rfl
   ·rw[decide_eq_false hbal]at k2
    rw[if_neg hbal]at hG
    try simp only at hG
    generalize ofQ (z+d.1)=Y1 at *
    generalize ofQ (t+d.2)=Y2 at *
    generalize ofQ d.1=Y3 at *
    generalize ofQ d.2=Y4 at *
    repeat refine aa rfl ?_
    refine br rfl rfl (bb rfl rfl rfl rfl rfl rfl rfl (by decide) (by decide)) ?_
    repeat refine aa rfl ?_
    refine bC [12] [10,11] (by decide +kernel) ?_
    repeat refine aa rfl ?_
    refine am rfl rfl rfl sL rfl rfl ?_
    repeat refine aa rfl ?_
    refine am rfl rfl rfl l1 rfl rfl ?_
    repeat refine aa rfl ?_
    refine ak 8 [51,52,53,54,55,56,57,58] (by decide +kernel) ?_
    repeat refine aa rfl ?_
    refine am rfl rfl rfl k1 rfl rfl ?_
    repeat refine aa rfl ?_
    refine aS rfl rfl rfl k2 rfl rfl rfl ?_
    repeat refine aa rfl ?_
    exact⟨2,.inr (.inr ⟨rfl,hG.symm⟩),by decide,rfl,rfl,rfl,rfl,rfl,rfl,rfl,rfl,rfl,rfl,rfl,rfl,rfl,rfl,trivial⟩
 ·subst hG
  repeat refine aa rfl ?_
  exact aG rfl rfl rfl
def rV (s:SR) (z t:Rat):Rat:=a_ s.k.m (kW s.k.s (yQ s z t) s.k.S.length)
def lV (s:SR) (z t:Rat):Rat:=a_ s.k.m (pN s.k.s (yQ s z t) s.k.S.length)
def rT (z t A B:Rat) (s:SR):Bool:=decide (¬((0<A+B*(s.x:Rat)∧rV s z t≠0)∨(A+B*(s.x:Rat)<0∧lV s z t≠0)))
def gi (l:List SR) (z t A B:Rat):Bool:=l.all (rT z t A B)
theorem uf {p:Rat} (h:0<p):sgn p=1:=by rw[sgn,if_neg (by grind),if_neg (by grind)]
theorem ue {p:Rat} (h:p<0):sgn p = -1:=by rw[sgn,if_pos h]
theorem mQ {p:Rat} (h:p=0):sgn p=0:=(kF p).2 h
theorem yW {p:Rat} (h:p≠0):sgn p=1∨sgn p = -1:=by
 rcases Classical.em (0<p) with h1|h1
 ·exact .inl (uf h1)
 ·exact .inr (ue (by grind))
set_option maxRecDepth 20000 in
theorem xJ (b:BR) (hb:b.Ok) (a:AR) {z t:Rat} {n m:Nat} [ha:Va a z t n m] (hn:n+m≤50000) (r:AR) {A B:Rat} {n' m':Nat} (hr:Va r A B n' m') (h2:n'≤100000) (h3:m'≤100000):Ret Tryz.prog .shared 103 [.agg (eB b),.agg (eA a),.agg (eA r)] (.bool (gi b.l z t A B)):=by
 have h6:=kD a
 have h7:=qE a
 have hck:=hb.chkL
 have hl:=hb.lim.l
 have h12:=hb.few.1
 have hrz:=hr.z
 have hrt:=hr.t
 generalize hF:gi b.l z t A B=F
 rw[gi]at hF
 obtain⟨w,ba,l⟩:=b
 simp only at *
 have hml:(l.map eS).length=l.length:=by simp
 obtain⟨rz,rt⟩:=r
 simp only at hrz hrt
 refine Ret.of_pwp layOk mixed Go.Proofs.Tryz.func103 rfl (by decide) rfl rfl ?_
 repeat refine aa rfl ?_
 refine aq (fun i:Nat=>i≤l.length∧(l.drop i).all (rT z t A B)=l.all (rT z t A B)) (fun i=>[(4,.ptr 4 1 0 0),(5,.ptr 5 1 0 0),(11,.sl (l.map eS)),(12,I l.length),(13,I (i:Nat))])
  (fun i=>[(4,1,⟨33,8,[eA a],2⟩),(5,1,⟨38,8,[eA ⟨rz,rt⟩],2⟩)]) (fun i=>l.length-i) 0 ⟨Nat.zero_le _,by rw[List.drop_zero]⟩ ⟨rfl,rfl,rfl,by rw[←hml];rfl,rfl,rfl,rfl,trivial⟩ ?_
 intro i s ⟨hi,hall⟩
 repeat refine aa rfl ?_
 refine ab rfl ?_ ?_<;>intro h
 ·have hlt:i<l.length:=by have:=of_decide_eq_true h;omega
  clear h
  obtain⟨x,hx⟩:=aI hlt
  have hxm:=List.mem_of_getElem? hx
  have hxl:=hl.1 x hxm
  have hkc:=b6 hck x hxm
  have zx:Zb x.x:=aN hxl.x.1 hxl.x.2
  have hw:=iA i
  have hdr:(l.drop i).all (rT z t A B)=(rT z t A B x&&(l.drop (i+1)).all (rT z t A B)):=by
   obtain⟨hl1,h2⟩:=List.getElem?_eq_some_iff.1 hx
   rw[List.drop_eq_getElem_cons hl1,h2,List.all_cons]
  rw[hdr]at hall
  have hbd:rT z t A B x=rT z t A B x:=rfl
  conv at hbd=>rhs;rw[rT]
  have e1:=aL x.x hxl.x
  have e2:=ec rt (ofQ (x.x:Rat)) (hx:=hrt) (by omega) (by decide)
  have v2:Vq (ofQ (B*(x.x:Rat))) (B*(x.x:Rat)) (m'+1+4):=Vq.ofQ (h:=@HQ.mul _ _ (m'+1) 4 hrt.hq HQ.int)
  have e3:=dO rz (ofQ (B*(x.x:Rat))) (hx:=hrz) (hy:=v2) (by omega) (by omega)
  have v3:Vq (ofQ (A+B*(x.x:Rat))) (A+B*(x.x:Rat)) (n'+1+(m'+1+4)+1):=Vq.ofQ (h:=@HQ.add _ _ (n'+1) _ hrz.hq (cK v2))
  have e4:=ld (ofQ (A+B*(x.x:Rat))) (hx:=v3) (by omega)
  have cr:=mM x hxl hkc a (z:=z) (t:=t) (by omega)
  have cl:=nP x hxl hkc a (z:=z) (t:=t) (by omega)
  rw[show a_ x.k.m (kW x.k.s (yQ x z t) x.k.S.length)=rV x z t from rfl]at cr
  have vr:Vq (ofQ (rV x z t)) (rV x z t) 13:=Vq.ofQ (h:=(nz x.k hxl.k _).hq)
  have vl:Vq (vv x.k (yQ x z t) x.k.S.length) (lV x z t) 12:=xZ hxl.k _ _
  have sr:=ld (ofQ (rV x z t)) (hx:=vr) (by decide)
  have sl:=ld (vv x.k (yQ x z t) x.k.S.length) (hx:=vl) (by decide)
  generalize ofQ (rV x z t)=RV at *
  generalize vv x.k (yQ x z t) x.k.S.length=LV at *
  generalize rT z t A B x=ok at *
  generalize ofQ (A+B*(x.x:Rat))=D1 at *
  generalize ofQ (B*(x.x:Rat))=D2 at *
  generalize ofQ (x.x:Rat)=D3 at *
  rcases Classical.em (0<A+B*(x.x:Rat)) with hd|hd
  ·rw[uf hd]at e4
   rcases Classical.em (rV x z t=0) with hz|hz
   ·rw[mQ hz]at sr
    have hbad:ok=true:=by rw[hbd,decide_eq_true];rintro(⟨_,h⟩|⟨h,_⟩);exact h hz;grind
    rw[hbad,Bool.true_and]at hall
    repeat refine aa rfl ?_
    refine bT rfl rfl rfl rfl rfl rfl rfl hx rfl ?_
    repeat refine aa rfl ?_
    refine ak 11 [17,18,19,20,21,22,23,24,25,26,9] (by decide +kernel) ?_
    repeat refine aa rfl ?_
    refine am rfl rfl rfl e1 rfl rfl ?_
    repeat refine aa rfl ?_
    refine am rfl rfl rfl e2 rfl rfl ?_
    repeat refine aa rfl ?_
    refine am rfl rfl rfl e3 rfl rfl ?_
    repeat refine aa rfl ?_
    refine aS rfl rfl rfl e4 rfl rfl rfl ?_
    repeat refine aa rfl ?_
    refine ak 22 [27,28,29,30,31,32,33,34,35,36,37,38,39,40,41,42,43,44,45,46,47,48] (by decide +kernel) ?_
    repeat refine aa rfl ?_
    refine am rfl rfl rfl h6 rfl rfl ?_
    repeat refine aa rfl ?_
    refine am rfl rfl rfl cr rfl rfl ?_
    repeat refine aa rfl ?_
    refine aS rfl rfl rfl sr rfl rfl rfl ?_
    repeat refine aa rfl ?_
    exact⟨i+1,⟨by omega,hall⟩,by omega,rfl,rfl,rfl,rfl,congrArg I hw,rfl,rfl,trivial⟩
   ·have hbad:ok=false:=by rw[hbd,decide_eq_false];exact fun h=>h (.inl ⟨hd,hz⟩)
    rw[hbad,Bool.false_and]at hall
    rcases yW hz with hs|hs
    ·rw[hs]at sr
     repeat refine aa rfl ?_
     refine bT rfl rfl rfl rfl rfl rfl rfl hx rfl ?_
     repeat refine aa rfl ?_
     refine ak 11 [17,18,19,20,21,22,23,24,25,26,9] (by decide +kernel) ?_
     repeat refine aa rfl ?_
     refine am rfl rfl rfl e1 rfl rfl ?_
     repeat refine aa rfl ?_
     refine am rfl rfl rfl e2 rfl rfl ?_
     repeat refine aa rfl ?_
     refine am rfl rfl rfl e3 rfl rfl ?_
     repeat refine aa rfl ?_
     refine aS rfl rfl rfl e4 rfl rfl rfl ?_
     repeat refine aa rfl ?_
     refine ak 22 [27,28,29,30,31,32,33,34,35,36,37,38,39,40,41,42,43,44,45,46,47,48] (by decide +kernel) ?_
     repeat refine aa rfl ?_
     refine am rfl rfl rfl h6 rfl rfl ?_
     repeat refine aa rfl ?_
     refine am rfl rfl rfl cr rfl rfl ?_
     repeat refine aa rfl ?_
     refine aS rfl rfl rfl sr rfl rfl rfl ?_
     repeat refine aa rfl ?_
     exact aR rfl rfl (by rw[←hF,←hall])
    ·rw[hs]at sr
     repeat refine aa rfl ?_
     refine bT rfl rfl rfl rfl rfl rfl rfl hx rfl ?_
     repeat refine aa rfl ?_
     refine ak 11 [17,18,19,20,21,22,23,24,25,26,9] (by decide +kernel) ?_
     repeat refine aa rfl ?_
     refine am rfl rfl rfl e1 rfl rfl ?_
     repeat refine aa rfl ?_
     refine am rfl rfl rfl e2 rfl rfl ?_
     repeat refine aa rfl ?_
     refine am rfl rfl rfl e3 rfl rfl ?_
     repeat refine aa rfl ?_
     refine aS rfl rfl rfl e4 rfl rfl rfl ?_
     repeat refine aa rfl ?_
     refine ak 22 [27,28,29,30,31,32,33,34,35,36,37,38,39,40,41,42,43,44,45,46,47,48] (by decide +kernel) ?_
     repeat refine aa rfl ?_
     refine am rfl rfl rfl h6 rfl rfl ?_
     repeat refine aa rfl ?_
     refine am rfl rfl rfl cr rfl rfl ?_
     repeat refine aa rfl ?_
     refine aS rfl rfl rfl sr rfl rfl rfl ?_
     repeat refine aa rfl ?_
     exact aR rfl rfl (by rw[←hF,←hall])
  ·rcases Classical.em (A+B*(x.x:Rat)<0) with hd2|hd2
   ·rw[ue hd2]at e4
    rcases Classical.em (lV x z t=0) with hz|hz
    ·rw[mQ hz]at sl
     have hbad:ok=true:=by rw[hbd,decide_eq_true];rintro(⟨h,_⟩|⟨_,h⟩);exact hd h;exact h hz
     rw[hbad,Bool.true_and]at hall
     repeat refine aa rfl ?_
     refine bT rfl rfl rfl rfl rfl rfl rfl hx rfl ?_
     repeat refine aa rfl ?_
     refine ak 11 [17,18,19,20,21,22,23,24,25,26,9] (by decide +kernel) ?_
     repeat refine aa rfl ?_
     refine am rfl rfl rfl e1 rfl rfl ?_
     repeat refine aa rfl ?_
     refine am rfl rfl rfl e2 rfl rfl ?_
     repeat refine aa rfl ?_
     refine am rfl rfl rfl e3 rfl rfl ?_
     repeat refine aa rfl ?_
     refine aS rfl rfl rfl e4 rfl rfl rfl ?_
     repeat refine aa rfl ?_
     refine ak 22 [27,28,29,30,31,32,33,34,35,36,37,38,39,40,41,42,43,44,45,46,47,48] (by decide +kernel) ?_
     repeat refine aa rfl ?_
     refine am rfl rfl rfl h7 rfl rfl ?_
     repeat refine aa rfl ?_
     refine am rfl rfl rfl cl rfl rfl ?_
     repeat refine aa rfl ?_
     refine aS rfl rfl rfl sl rfl rfl rfl ?_
     repeat refine aa rfl ?_
     exact⟨i+1,⟨by omega,hall⟩,by omega,rfl,rfl,rfl,rfl,congrArg I hw,rfl,rfl,trivial⟩
    ·have hbad:ok=false:=by rw[hbd,decide_eq_false];exact fun h=>h (.inr ⟨hd2,hz⟩)
     rw[hbad,Bool.false_and]at hall
     rcases yW hz with hs|hs
     ·rw[hs]at sl
      repeat refine aa rfl ?_
      refine bT rfl rfl rfl rfl rfl rfl rfl hx rfl ?_
      repeat refine aa rfl ?_
      refine ak 11 [17,18,19,20,21,22,23,24,25,26,9] (by decide +kernel) ?_
      repeat refine aa rfl ?_
      refine am rfl rfl rfl e1 rfl rfl ?_
      repeat refine aa rfl ?_
      refine am rfl rfl rfl e2 rfl rfl ?_
      repeat refine aa rfl ?_
      refine am rfl rfl rfl e3 rfl rfl ?_
      repeat refine aa rfl ?_
      refine aS rfl rfl rfl e4 rfl rfl rfl ?_
      repeat refine aa rfl ?_
      refine ak 22 [27,28,29,30,31,32,33,34,35,36,37,38,39,40,41,42,43,44,45,46,47,48] (by decide +kernel) ?_
      repeat refine aa rfl ?_
      refine am rfl rfl rfl h7 rfl rfl ?_
      repeat refine aa rfl ?_
      refine am rfl rfl rfl cl rfl rfl ?_
      repeat refine aa rfl ?_
      refine aS rfl rfl rfl sl rfl rfl rfl ?_
      repeat refine aa rfl ?_
      exact aR rfl rfl (by rw[←hF,←hall])
     ·rw[hs]at sl
      repeat refine aa rfl ?_
      refine bT rfl rfl rfl rfl rfl rfl rfl hx rfl ?_
      repeat refine aa rfl ?_
      refine ak 11 [17,18,19,20,21,22,23,24,25,26,9] (by decide +kernel) ?_
      repeat refine aa rfl ?_
      refine am rfl rfl rfl e1 rfl rfl ?_
      repeat refine aa rfl ?_
      refine am rfl rfl rfl e2 rfl rfl ?_
      repeat refine aa rfl ?_
      refine am rfl rfl rfl e3 rfl rfl ?_
      repeat refine aa rfl ?_
      refine aS rfl rfl rfl e4 rfl rfl rfl ?_
      repeat refine aa rfl ?_
      refine ak 22 [27,28,29,30,31,32,33,34,35,36,37,38,39,40,41,42,43,44,45,46,47,48] (by decide +kernel) ?_
      repeat refine aa rfl ?_
      refine am rfl rfl rfl h7 rfl rfl ?_
      repeat refine aa rfl ?_
      refine am rfl rfl rfl cl rfl rfl ?_
      repeat refine aa rfl ?_
      refine aS rfl rfl rfl sl rfl rfl rfl ?_
      repeat refine aa rfl ?_
      exact aR rfl rfl (by rw[←hF,←hall])
   ·rw[mQ (show A+B*(x.x:Rat)=0 by grind)]at e4
    have hbad:ok=true:=by rw[hbd,decide_eq_true];rintro(⟨h,_⟩|⟨h,_⟩);exact hd h;exact hd2 h
    rw[hbad,Bool.true_and]at hall
    repeat refine aa rfl ?_
    refine bT rfl rfl rfl rfl rfl rfl rfl hx rfl ?_
    repeat refine aa rfl ?_
    refine ak 11 [17,18,19,20,21,22,23,24,25,26,9] (by decide +kernel) ?_
    repeat refine aa rfl ?_
    refine am rfl rfl rfl e1 rfl rfl ?_
    repeat refine aa rfl ?_
    refine am rfl rfl rfl e2 rfl rfl ?_
    repeat refine aa rfl ?_
    refine am rfl rfl rfl e3 rfl rfl ?_
    repeat refine aa rfl ?_
    refine aS rfl rfl rfl e4 rfl rfl rfl ?_
    repeat refine aa rfl ?_
    refine ak 22 [27,28,29,30,31,32,33,34,35,36,37,38,39,40,41,42,43,44,45,46,47,48] (by decide +kernel) ?_
    repeat refine aa rfl ?_
    exact⟨i+1,⟨by omega,hall⟩,by omega,rfl,rfl,rfl,rfl,congrArg I hw,rfl,rfl,trivial⟩
 ·have hie:i=l.length:=by have:=of_decide_eq_false h;omega
  clear h
  rw[hie,List.drop_length,List.all_nil]at hall
  rw[←hall]at hF
  subst hF
  repeat refine aa rfl ?_
  exact aR rfl rfl rfl
theorem so (b:BR) (hb:b.Ok) (a:AR) {z t:Rat} {n m:Nat} [ha:Va a z t n m] (hn:n+m≤50000) (r:AR) {A B:Rat} {n' m':Nat} (hr:Va r A B n' m') (h2:n'≤100000) (h3:m'≤100000):Ret Tryz.prog .shared 102 [.agg (eA r),.dref (eB b) 0,.dref (eA a) 0] (.bool (gi b.l z t A B)):=by
 have h1:=xJ b hb a (z:=z) (t:=t) hn r hr h2 h3
 generalize gi b.l z t A B=F at *
 refine Ret.of_pwp layOk mixed Go.Proofs.Tryz.func102 rfl (by decide) rfl rfl ?_
 repeat refine aa rfl ?_
 refine aS rfl rfl rfl h1 rfl rfl rfl ?_
 repeat refine aa rfl ?_
 exact aR rfl rfl rfl
def mq (p:AR→Bool):List AR→Nat→Int
 |[],_ => -1
 |d::l,i=>if p d=true then(i:Int) else mq p l (i+1)
theorem qo (p:AR→Bool):∀(l:List AR) (i:Nat),decide (0≤mq p l i)=l.any p
 |[],i=>rfl
 |d::l,i=>by
  rw[mq,List.any_cons]
  cases h:p d
  ·rw[if_neg (by decide),qo p l (i+1),Bool.false_or]
  ·rw[if_pos rfl,Bool.true_or,decide_eq_true];omega
theorem u_ (p:AR→Bool) {l:List AR} {i:Nat} {x:AR} (h:l[i]? = some x):mq p (l.drop i) i=if p x=true then(i:Int) else mq p (l.drop (i+1)) (i+1):=by
 obtain⟨hl,rfl⟩:=List.getElem?_eq_some_iff.1 h
 rw[List.drop_eq_getElem_cons hl,mq]
set_option maxRecDepth 20000 in
theorem sj (T:List AR) (hT:T.length≤1000) (f:FuncId) (c1 c2:List PV) (p:AR→Bool) (hg:∀d∈T,Ret Tryz.prog .shared f [.agg (eA d),.dref c1 0,.dref c2 0] (.bool (p d))):Ret Tryz.prog .shared 164 [.sl (T.map eA),.clo f [.dref c1 0,.dref c2 0]] (I (mq p T 0)):=by
 have hml:(T.map eA).length=T.length:=by simp
 generalize hF:mq p T 0=F
 refine Ret.of_pwp layOk mixed Go.Proofs.Tryz.func164 rfl (by decide) rfl rfl ?_
 repeat refine aa rfl ?_
 refine aq (fun i:Nat=>i≤T.length∧mq p (T.drop i) i=F) (fun i=>[(0,.sl (T.map eA)),(1,.clo f [.dref c1 0,.dref c2 0]),(7,I T.length),(8,I (i:Nat))])
  (fun _=>[]) (fun i=>T.length-i) 0 ⟨Nat.zero_le _,by rw[List.drop_zero];exact hF⟩ ⟨rfl,rfl,by rw[←hml];rfl,rfl,trivial⟩ ?_
 intro i s ⟨hi,hall⟩
 repeat refine aa rfl ?_
 refine ab rfl ?_ ?_<;>intro h
 ·have hlt:i<T.length:=by have:=of_decide_eq_true h;omega
  clear h
  obtain⟨x,hx⟩:=aI hlt
  have hgx:=hg x (List.mem_of_getElem? hx)
  have hw:=iA i
  rw[u_ p hx]at hall
  cases hp:p x with
  |true =>
   rw[hp]at hgx
   rw[if_pos hp]at hall
   repeat refine aa rfl ?_
   refine bT rfl rfl rfl rfl rfl rfl rfl hx rfl ?_
   repeat refine aa rfl ?_
   refine aS rfl rfl rfl hgx rfl rfl rfl ?_
   repeat refine aa rfl ?_
   exact bx rfl rfl (by rw[←hall])
  |false =>
   rw[hp]at hgx
   rw[if_neg (by rw[hp];decide)]at hall
   repeat refine aa rfl ?_
   refine bT rfl rfl rfl rfl rfl rfl rfl hx rfl ?_
   repeat refine aa rfl ?_
   refine aS rfl rfl rfl hgx rfl rfl rfl ?_
   repeat refine aa rfl ?_
   exact⟨i+1,⟨by omega,hall⟩,by omega,rfl,rfl,rfl,congrArg I hw,trivial⟩
 ·have hie:i=T.length:=by have:=of_decide_eq_false h;omega
  clear h
  rw[hie,List.drop_length,mq]at hall
  rw[←hall]
  repeat refine aa rfl ?_
  exact bx rfl rfl rfl
theorem nk (T:List AR) (hT:T.length≤1000) (f:FuncId) (c1 c2:List PV) (p:AR→Bool) (hg:∀d∈T,Ret Tryz.prog .shared f [.agg (eA d),.dref c1 0,.dref c2 0] (.bool (p d))):Ret Tryz.prog .shared 101 [.sl (T.map eA),.clo f [.dref c1 0,.dref c2 0]] (.bool (T.any p)):=by
 have h1:=sj T hT f c1 c2 p hg
 rw[←qo p T 0]
 generalize mq p T 0=F at *
 refine Ret.of_pwp layOk mixed Go.Proofs.Tryz.func101 rfl (by decide) rfl rfl ?_
 repeat refine aa rfl ?_
 refine aS rfl rfl rfl h1 rfl rfl rfl ?_
 repeat refine aa rfl ?_
 exact aR rfl rfl rfl
set_option maxRecDepth 20000 in
theorem ti {K:St→Prop} {s:St} {d g2 g3:Nat} {R2 R3:Cont} {x:Operand} {tys:Array TypeId} {ty:TypeId} {pos:String} {af:Array Edge} (l:List SR) (hl:gp l) (h12:l.length≤1000) (hck:bR l=0)
  (hx:s.ev x = .sl (l.map eS)) (ho:FitO s [(2,g2,R2),(1003,g3,R3)])
  (hK:∀(s1:St) (g:Nat),K (({ reg:=s.reg,own:=(s1.over [] [(2,g2,R2),(1003,g3,R3),(3,g,⟨38,8,(bj l).map eA,1⟩)]).own }:St).putR d (.als 3 g 0 ((bj l).map eA).length))) :
  Sm Tryz.prog lay.get s ⟨some d,.call ⟨.value (.func 56),#[x],tys⟩,ty,pos,af,none⟩ K:=by
 have hp:=ja l hl h12
 have hrg:∀x∈bm l,-1000000≤x∧x≤1000000:=fun x hx=>dQ hck hx
 have hpl:=dI l
 have w1:=aL 1 ⟨by decide,by decide⟩
 have w2:=aL (-1) ⟨by decide,by decide⟩
 rw[bj]at hK
 generalize bm l=Pl at *
 have hml:(Pl.map eN).length=Pl.length:=by simp
 have hrows:∀(k:Nat) x,Pl[k]? = some x→((Pl.take (k+1)).map ga).map eA=((Pl.take k).map ga).map eA++[eA (ga x)]:=fun k x hx=>by rw[b0 hx,List.map_append,List.map_append];rfl
 have hrows2:∀(k:Nat) x,Pl[k]? = some x→(Pl.map ga++(Pl.take (k+1)).map nh).map eA=(Pl.map ga++(Pl.take k).map nh).map eA++[eA (nh x)]:=fun k x hx=>by rw[b0 hx];simp[List.map_append]
 refine bE layOk rfl rfl Tryz.func56 rfl (by decide) rfl rfl ?_
 show PWP _ _ _ _ (aQ s (([x]:List Operand).map s.ev++[]))
 rw[show(([x]:List Operand).map s.ev++([]:List PV))=[.sl (l.map eS)] by simp[hx]]
 rw[show aQ s [.sl (l.map eS)]=aQ (s.over [] [(2,g2,R2),(1003,g3,R3)]) [.sl (l.map eS)] by rw[Fit.over (l:=[]) ho]]
 ((repeat (first|refine aW ?_ | refine bZ ?_ | refine bY ?_ | refine bU ?_));refine aZ ?_)
 refine gL rfl trivial ?_
 ((repeat (first|refine aW ?_ | refine bZ ?_ | refine bY ?_ | refine bU ?_));refine aZ ?_)
 (first|refine ax (eP 38 8 1 rfl rfl ?_)|refine ax (eO 38 8 1 rfl rfl ?_))
 repeat refine aa rfl ?_
 refine am rfl rfl rfl hp rfl rfl ?_
 repeat refine aa rfl ?_
 refine fp [(0,.sl (l.map eS)),(3,.als 3 ((s.own 3).1+1) 0 0),(9,.sl (Pl.map eN)),(10,I (Pl.map eN).length),(11,I ((0:Nat):Int))] [(2,g2,R2),(1003,g3,R3),(3,(s.own 3).1+1,⟨38,8,[],1⟩)] ⟨rfl,rfl,rfl,rfl,rfl,rfl,rfl,rfl,trivial⟩ ?_
 generalize (s.own 3).1+1=g
 rw[hml]
 intro s0
 refine aq (fun k=>k≤Pl.length) (fun k=>[(0,.sl (l.map eS)),(3,.als 3 (g+k) 0 (((Pl.take k).map ga).map eA).length),(9,.sl (Pl.map eN)),(10,I Pl.length),(11,I k)]) (fun k=>[(2,g2,R2),(1003,g3,R3),(3,g+k,⟨38,8,((Pl.take k).map ga).map eA,1⟩)]) (fun k=>Pl.length-k) 0 (Nat.zero_le _) ⟨rfl,rfl,rfl,rfl,rfl,rfl,rfl,rfl,trivial⟩ ?_
 intro k s1 hk
 repeat refine aa rfl ?_
 refine ab rfl ?_ ?_<;>intro h
 ·have hlt:k<Pl.length:=by have:=of_decide_eq_true h;omega
  clear h
  obtain⟨x,hx⟩:=aI hlt
  have hr:=hrg x (List.mem_of_getElem? hx)
  have hnx:=aL (-x) ⟨by omega,by omega⟩
  have hw:=iA k
  have hn:IntKind.i64.wrap (0-x) = -x:=by rw[wrap_i64 (by omega) (by omega)];omega
  repeat refine aa rfl ?_
  refine bT rfl rfl rfl rfl rfl rfl rfl hx rfl ?_
  repeat refine aa rfl ?_
  rw[hn]
  refine am rfl rfl rfl hnx rfl rfl ?_
  repeat refine aa rfl ?_
  refine am rfl rfl rfl w1 rfl rfl ?_
  repeat refine aa rfl ?_
  refine ax (bt 1 rfl rfl rfl rfl rfl rfl rfl rfl rfl rfl rfl (by repeat' constructor) rfl ?_)
  repeat refine aa rfl ?_
  refine ax (bQ 1 rfl rfl rfl rfl rfl rfl rfl rfl rfl rfl rfl (by repeat' constructor) (by intro row hr;first|(simp at hr;subst hr;rfl)|simp at hr) rfl rfl (by simp;omega) (by simp;omega) ?_)
  repeat refine aa rfl ?_
  refine⟨k+1,hlt,by omega,rfl,?_,rfl,rfl,congrArg I hw,rfl,rfl,?_,trivial⟩
  ·rw[hrows k x hx];rfl
  ·rw[hrows k x hx];rfl
 ·have hge:k=Pl.length:=by have:=of_decide_eq_false h;omega
  subst hge
  clear h
  rw[List.take_length]
  repeat refine aa rfl ?_
  refine am rfl rfl rfl hp rfl rfl ?_
  repeat refine aa rfl ?_
  refine aq (fun k=>k≤Pl.length) (fun k=>[(3,.als 3 (g+Pl.length+k) 0 ((Pl.map ga++(Pl.take k).map nh).map eA).length),(25,.sl (Pl.map eN)),(26,I Pl.length),(27,I k)]) (fun k=>[(2,g2,R2),(1003,g3,R3),(3,g+Pl.length+k,⟨38,8,(Pl.map ga++(Pl.take k).map nh).map eA,1⟩)]) (fun k=>Pl.length-k) 0 (Nat.zero_le _) ⟨by rw[List.take_zero,List.map_nil,List.append_nil];rfl,rfl,by rw[←hml];rfl,rfl,rfl,rfl,by rw[List.take_zero,List.map_nil,List.append_nil];rfl,trivial⟩ ?_
  intro k s2 hk
  repeat refine aa rfl ?_
  refine ab rfl ?_ ?_<;>intro h
  ·have hlt:k<Pl.length:=by have:=of_decide_eq_true h;omega
   clear h
   obtain⟨x,hx⟩:=aI hlt
   have hr:=hrg x (List.mem_of_getElem? hx)
   have hnx:=aL x ⟨by omega,by omega⟩
   have hw:=iA k
   repeat refine aa rfl ?_
   refine bT rfl rfl rfl rfl rfl rfl rfl hx rfl ?_
   repeat refine aa rfl ?_
   refine am rfl rfl rfl hnx rfl rfl ?_
   repeat refine aa rfl ?_
   refine am rfl rfl rfl w2 rfl rfl ?_
   repeat refine aa rfl ?_
   refine ax (bt 1 rfl rfl rfl rfl rfl rfl rfl rfl rfl rfl rfl (by repeat' constructor) rfl ?_)
   repeat refine aa rfl ?_
   refine ax (bQ 1 rfl rfl rfl rfl rfl rfl rfl rfl rfl rfl rfl (by repeat' constructor) (by intro row hr;first|(simp at hr;subst hr;rfl)|simp at hr) rfl rfl (by simp;omega) (by simp;omega) ?_)
   repeat refine aa rfl ?_
   refine⟨k+1,hlt,by omega,?_,rfl,rfl,congrArg I hw,rfl,rfl,?_,trivial⟩
   ·rw[hrows2 k x hx];rfl
   ·rw[hrows2 k x hx];rfl
  ·have hge:k=Pl.length:=by have:=of_decide_eq_false h;omega
   subst hge
   clear h
   rw[List.take_length]
   repeat refine aa rfl ?_
   exact ly rfl rfl (hK s2 (g+Pl.length+Pl.length))
def rc:AR:=⟨ofQ ((-1:Int):Rat),ofQ ((0:Int):Rat)⟩
def dZ (l:List SR):List AR:=bj l++[bM,rc]
def eJ (b:BR) (z t:Rat):Bool:=(dZ b.l).any fun d=>gi b.l z t d.z.val d.t.val
theorem Ai {l:List SR} (hck:bR l=0) {r:AR} (h:r∈dZ l):Va r r.z.val r.t.val 4 4:=by
 rw[dZ,List.mem_append]at h
 rcases h with h|h
 ·exact pJ hck h
 ·simp at h
  rcases h with rfl|rfl
  ·exact o0
  ·exact⟨vI ⟨by decide,by decide⟩,vI ⟨by decide,by decide⟩⟩
theorem Bn {r1 r2:List PV} {n:Nat} (h1:r1.length=n) (h2:r2.length=n):∀row∈[r1,r2],row.length=n:=by
 intro row hr
 rcases List.mem_cons.1 hr with rfl|hr
 ·exact h1
 ·rcases List.mem_cons.1 hr with rfl|hr
  ·exact h2
  ·cases hr
set_option maxRecDepth 20000 in
theorem nR (b:BR) (hb:b.Ok) (a:AR) {z t:Rat} {n m:Nat} [ha:Va a z t n m] (hn:n+m≤50000):Ret Tryz.prog .shared 46 [.agg (eB b),.agg (eA a)] (.bool (eJ b z t)):=by
 have hl:=hb.lim.l
 have hck:=hb.chkL
 have h12:=hb.few.1
 have hlen:(dZ b.l).length≤1000:=by
  have:=dI b.l
  rw[dZ,bj];simp;omega
 have hc:=nk (dZ b.l) hlen 102 (eB b) (eA a) (fun d=>gi b.l z t d.z.val d.t.val) fun d hd=>so b hb a (z:=z) (t:=t) hn d (Ai hck hd) (by decide) (by decide)
 rw[show(dZ b.l).any (fun d=>gi b.l z t d.z.val d.t.val)=eJ b z t from rfl]at hc
 have w1:=aL 1 ⟨by decide,by decide⟩
 have w0:=aL 0 ⟨by decide,by decide⟩
 have w2:=aL (-1) ⟨by decide,by decide⟩
 generalize eJ b z t=F at *
 have hT:(bj b.l).length≤1000:=by rw[dZ]at hlen;simp at hlen;omega
 have hrow:(bj b.l).map eA++[eA bM,eA rc]=(dZ b.l).map eA:=by rw[dZ,List.map_append];rfl
 refine Ret.of_pwp layOk mixed Go.Proofs.Tryz.func46 rfl (by decide) rfl rfl ?_
 (repeat ((fail_if_success (with_reducible refine aJ 1 ?_));refine cn rfl ?_))
 refine ay (Ghost.move (k:=3) (k':=1003) (t:=3) rfl rfl rfl rfl) ?_
 ((repeat ((fail_if_success (with_reducible refine aJ 1 ?_));refine cn rfl ?_));refine aB 2 ?_)
 iterate 2 refine aa rfl ?_
 refine aW ?_
 refine aK rfl (ti (g2:=1) (g3:=1) b.l hl (by omega) hck rfl ⟨rfl,rfl,trivial⟩ fun s1 g=>?_)
 refine aD ?_
 repeat refine aa rfl ?_
 refine am rfl rfl rfl w1 rfl rfl ?_
 repeat refine aa rfl ?_
 refine am rfl rfl rfl w0 rfl rfl ?_
 repeat refine aa rfl ?_
 refine am rfl rfl rfl w2 rfl rfl ?_
 repeat refine aa rfl ?_
 refine am rfl rfl rfl w0 rfl rfl ?_
 repeat refine aa rfl ?_
 refine ax (bt 1 rfl rfl rfl rfl rfl rfl rfl rfl rfl rfl rfl (by repeat' constructor) rfl ?_)
 repeat refine aa rfl ?_
 refine ax (bQ 1 rfl rfl rfl rfl rfl rfl rfl rfl rfl rfl rfl (by repeat' constructor) (Bn rfl rfl) rfl rfl (by simp;omega) (by simp;omega) ?_)
 (repeat ((fail_if_success (with_reducible refine aJ 2 ?_));refine cn rfl ?_))
 refine ay (Ghost.data (k:=2) (t:=2) rfl rfl rfl rfl) ?_
 refine ay (Ghost.data (k:=1003) (t:=3) rfl rfl rfl rfl) ?_
 repeat refine aa rfl ?_
 rw[←hrow]at hc
 refine aS rfl rfl rfl hc rfl rfl rfl ?_
 repeat refine aa rfl ?_
 exact aR rfl rfl rfl
theorem Do (s:SR) (t:Rat) (k:Nat):prB (bn s t k)=(s.k.s k-(s.c.val+t*(s.x:Rat)),s.k.m k-a_ s.k.m k):=by
 rw[prB,bn,ofQ_val,ofQ_val];rfl
theorem Ci (b:BR) (t:Rat):(kf b.l t).map prB=(bd b).bnds t:=by
 rw[kf,Bd.bnds,List.map_flatMap]
 show _=(List.range b.l.length).flatMap ((bd b).bnd1 t)
 have e:∀s:SR,(li t s).map prB=(List.range s.k.S.length).map fun k=>(s.k.s k-(s.c.val+t*(s.x:Rat)),s.k.m k-a_ s.k.m k):=by
  intro s
  rw[li,List.map_map]
  exact List.map_congr_left fun k _=>Do s t k
 have key:∀(l:List SR),(l.flatMap fun s=>(li t s).map prB)=(List.range l.length).flatMap fun i=>(li t (l.getD i dS)).map prB:=by
  intro l
  induction l with
  |nil=>rfl
  |cons x l ih =>
   rw[List.flatMap_cons,ih,List.length_cons,List.range_succ_eq_map,List.flatMap_cons,List.flatMap_map]
   rfl
 rw[key]
 refine congrArg (fun f=>(List.range b.l.length).flatMap f) (funext fun i=>?_)
 rw[e]
 rfl
theorem kI {b:BR} (hb:b.Ok) {t:Rat} (hex:∃z,(bd b).w≤(bd b).F z t):(bd b).Least (fb b t) t:=by
 refine Bd.settled_least (fC hb) hex ?_ ?_
 ·rw[←Ci]
  exact(da aO (kf b.l t)).map prB
 ·rw[wY,List.pairwise_map]
  exact eg aO (kf b.l t)
theorem gR {b:BR} (hb:b.Ok) {t:Rat} (hex:∃z,(bd b).w≤(bd b).F z t):fb b t=(bd b).sg t:=(Bd.sg_eq (kI hb hex)).symm
theorem xU {b:BR} (z t:Rat):(bd b).Inl ((bd b).pL z t) z t:=fun i hi=>mD
theorem ta {b:BR} (hb:b.Ok) {t:Rat} {m:Nat} (ht:HQ t m) (hex:∃z,(bd b).w≤(bd b).F z t):HQ (fb b t) (m+5000):=by
 have hl:=kI hb hex
 have hK:=hl.K (fC hb) (xU _ _)
 have hz:=Bd.ln_at (fC hb) hl.1 (xU (b:=b) (fb b t) t).c hK
 rw[hz,Bd.ln]
 have hw:Zb b.w:=aN hb.lim.w.1 hb.lim.w.2
 have wq:HQ ((bd b).w) 4:=HQ.int
 have hpn:∀i,i<b.l.length→(bd b).pL (fb b t) t i≤(bd b).n i:=fun i hi=>(xU (b:=b) (fb b t) t i hi).1
 have fo:=By hb hpn
 have kc:=pO hb ((bd b).pL (fb b t) t)
 have kh:=pP hb ((bd b).pL (fb b t) t)
 exact(@HQ.div _ _ _ 300 (@HQ.sub _ _ _ _ (@HQ.sub _ _ 4 4100 wq fo) (@HQ.mul _ _ 300 m kc ht)) kh).mono (by omega)
theorem zf {b:BR} (hb:b.Ok) {t:Rat} {m:Nat} (ht:HQ t m) (hex:∃z,(bd b).w≤(bd b).F z t):Va ⟨ofQ (fb b t),ofQ t⟩ (fb b t) t (m+5000) m:=⟨Vq.ofQ (h:=ta hb ht hex),Vq.ofQ (h:=ht)⟩
theorem qg {b:BR} (hb:b.Ok) {t:Rat} {m:Nat} (ht:HQ t m) (hm:m≤20000) (hex:∃z,(bd b).w≤(bd b).F z t):Ret Tryz.prog .shared 97 [.agg (eB b),.agg (eA ⟨ofQ (fb b t),ofQ t⟩)] (.agg (eR (ofQ ((bd b).E t)))):=by
 have:=mc b hb ⟨ofQ (fb b t),ofQ t⟩ (ha:=zf hb ht hex) (by omega)
 rwa [show(bd b).e (fb b t) t=(bd b).E t by rw[Bd.E,gR hb hex]]at this
theorem wc {b:BR} (hb:b.Ok) {t:Rat} {m:Nat} (ht:HQ t m) (hm:m≤20000) (hex:∃z,(bd b).w≤(bd b).F z t):Ret Tryz.prog .shared 60 [.agg (eR (ofQ ((bd b).E t)))] (I (sgn ((bd b).E t))):=by
 have h1:=Cp hb (ta hb ht hex) ht
 rw[show(bd b).e (fb b t) t=(bd b).E t by rw[Bd.E,gR hb hex]]at h1
 exact ld (ofQ ((bd b).E t)) (hx:=Vq.ofQ (h:=h1)) (by omega)
theorem mj {b:BR} (hb:b.Ok) {t:Rat} {m:Nat} (ht:HQ t m) (hm:m≤20000) (hex:∃z,(bd b).w≤(bd b).F z t):Ret Tryz.prog .shared 100 [.agg (eB b),.agg (eA ⟨ofQ (fb b t),ofQ t⟩)] (BI ((bd b).guess ((bd b).sg t) t)):=by
 have:=u9 b hb ⟨ofQ (fb b t),ofQ t⟩ (ha:=zf hb ht hex) (by omega)
 rwa [←gR hb hex]
def p2 (k:Nat):Rat:=((2^k:Nat):Int)
theorem jL (k:Nat):p2 (k+1)=p2 k+p2 k:=by
 rw[p2,p2,Nat.pow_succ,show((2^k*2:Nat):Int)=((2^k:Nat):Int)+((2^k:Nat):Int) by omega]
 push_cast
 rfl
theorem qW {k:Nat}:HQ (p2 k) (k/16+1):=by
 refine⟨iT ?_ (by omega)⟩
 rw[Int.natAbs_natCast,show(65536:Nat)=2^16 by decide,←Nat.pow_mul]
 exact Nat.pow_lt_pow_right (by decide) (by omega)
theorem Af {b:Bd} {n:Nat} {w:Rat}:b.dbl (-1) (n+1) w=if 0<b.E (-w) then b.dbl (-1) n (w+w) else some w:=by
 rw[Bd.dbl]
 have e:(-1:Rat)*w = -w:=by grind
 rw[e]
 by_cases h:0<b.E (-w)
 ·rw[if_pos h,if_pos (by grind)]
 ·rw[if_neg h,if_neg (by grind)]
theorem Ag {b:Bd} {n:Nat} {w:Rat}:b.dbl 1 (n+1) w=if b.E w<0 then b.dbl 1 n (w+w) else some w:=by
 rw[Bd.dbl]
 have e:(1:Rat)*w=w:=by grind
 rw[e]
 by_cases h:b.E w<0
 ·rw[if_pos h,if_pos (by grind)]
 ·rw[if_neg h,if_neg (by grind)]
def Dy (N j:Nat) (t:Rat):Prop:=∃a:Int,t=(a:Rat)/((2^j:Nat):Int)∧a.natAbs≤2^(j+N)
theorem zE (j:Nat):(((2^j:Nat):Int))≠0:=by have:=Nat.two_pow_pos j;omega
theorem Dy.hq {N j:Nat} {t:Rat} (h:Dy N j t):HQ t ((j+N)/16+1):=by
 obtain⟨a,rfl,ha⟩:=h
 have key:2^(j+N)<65536^((j+N)/16+1):=by
  rw[show(65536:Nat)=2^16 by decide,←Nat.pow_mul]
  exact Nat.pow_lt_pow_right (by decide) (by omega)
 have h2:2^j≤2^(j+N):=Nat.pow_le_pow_right (by decide) (by omega)
 exact⟨ko (zE j) (by omega) (by rw[Int.natAbs_natCast];omega)⟩
theorem Dy.mid {N j:Nat} {lo hi:Rat} (h1:Dy N j lo) (h2:Dy N j hi):Dy N (j+1) ((lo+hi)/2):=by
 obtain⟨a,rfl,ha⟩:=h1
 obtain⟨c,rfl,hc⟩:=h2
 refine⟨a+c,?_,?_⟩
 ·have e:(((2^(j+1):Nat):Int):Rat)=2*(((2^j:Nat):Int):Rat):=by
   rw[Nat.pow_succ,show((2^j*2:Nat):Int)=2*((2^j:Nat):Int) by omega];push_cast;rfl
  have hn:(((2^j:Nat):Int):Rat)≠0:=by have:=zE j;exact_mod_cast this
  rw[e]
  push_cast
  generalize (((2^j:Nat):Int):Rat)=D at *
  grind
 ·rw[show j+1+N=(j+N)+1 by omega,Nat.pow_succ]
  omega
theorem Dy.up {N j:Nat} {t:Rat} (h:Dy N j t):Dy N (j+1) t:=by
 have:=Dy.mid h h
 rwa [show(t+t)/2=t by grind]at this
noncomputable def f3 (b:Bd):List Rat→Option (Rat × Rat)
 |[]=>none
 |t::r=>match b.at1 t with
  |some x=>some x
  |none=>f3 b r
theorem Aq (b:Bd) (lo hi:Rat):b.fst3 lo hi=f3 b [0,lo,hi]:=by
 rw[Bd.fst3,f3,f3,f3,f3]
 cases b.at1 0<;>cases b.at1 lo<;>cases b.at1 hi<;>rfl
set_option maxRecDepth 20000 in
theorem nJ (b:BR) (hb:b.Ok) (h40:∀t,(kf b.l t).length≤40) (hS:∀t,SortC (kf b.l t)) (hex:∀t,∃z,(bd b).w≤(bd b).F z t) {N:Nat} (hN:N≤150000) {x:Rat × Rat} (hx:(bd b).eqQ N=some x):Ret Tryz.prog .shared 45 [.agg (eB b)] (.agg (eA ⟨ofQ x.1,ofQ x.2⟩)):=by
 have w1:=aL 1 ⟨by decide,by decide⟩
 have wm:=aL (-1) ⟨by decide,by decide⟩
 rw[show(((1:Int):Int):Rat)=p2 0 from rfl]at w1
 rw[show(((-1:Int):Int):Rat) = -p2 0 by rw[show p2 0=1 from rfl];rfl]at wm
 rw[Bd.eqQ]at hx
 obtain⟨Wl,hWl⟩:∃W,(bd b).dbl (-1) N 1=some W:=by
  cases h:(bd b).dbl (-1) N 1 with
  |none=>rw[h]at hx;cases hx
  |some W=>exact⟨W,rfl⟩
 obtain⟨Wh,hWh⟩:∃W,(bd b).dbl 1 N 1=some W:=by
  cases h:(bd b).dbl 1 N 1 with
  |none=>rw[hWl,h]at hx;cases hx
  |some W=>exact⟨W,rfl⟩
 rw[hWl,hWh]at hx
 simp only at hx
 have row:∀(t:Rat) (m:Nat),HQ t m→m≤20000→Ret Tryz.prog .shared 98 [.agg (eB b),.agg (eR (ofQ t))] (.agg (eA ⟨ofQ (fb b t),ofQ t⟩))∧Ret Tryz.prog .shared 97 [.agg (eB b),.agg (eA ⟨ofQ (fb b t),ofQ t⟩)] (.agg (eR (ofQ ((bd b).E t))))∧Ret Tryz.prog .shared 60 [.agg (eR (ofQ ((bd b).E t)))] (I (sgn ((bd b).E t))):=fun t m ht hm =>
  ⟨rp b hb (h40 t) (hS t) (ofQ t) (ht:=Vq.ofQ (h:=ht)) (by omega),qg hb ht hm (hex t),wc hb ht hm (hex t)⟩
 refine Ret.of_pwp layOk mixed Go.Proofs.Tryz.func45 rfl (by decide) rfl rfl ?_
 repeat refine aa rfl ?_
 refine am rfl rfl rfl w1 rfl rfl ?_
 repeat refine aa rfl ?_
 refine am rfl rfl rfl wm rfl rfl ?_
 repeat refine aa rfl ?_
 refine am rfl rfl rfl w1 rfl rfl ?_
 repeat refine aa rfl ?_
 refine aq (fun k:Nat=>k<N∧(bd b).dbl (-1) (N-k) (p2 k)=some Wl) (fun k=>[(1,.ptr 1 1 0 0),(2,.ptr 2 1 0 0),(3,.ptr 3 1 0 0),(4,.ptr 4 1 0 0),(5,.ptr 5 1 0 0)])
  (fun k=>[(1,1,⟨29,6,[eB b],2⟩),(2,1,⟨33,8,[zN++zN],2⟩),(3,1,⟨26,4,[eR (ofQ (p2 k))],2⟩),(4,1,⟨26,4,[eR (ofQ (-p2 k))],2⟩),(5,1,⟨26,4,[eR (ofQ (p2 0))],2⟩)]) (fun k=>N-k) 0
  ⟨by rcases Nat.eq_zero_or_pos N with h|h;· subst h;cases hWl
      exact h,hWl⟩ ⟨rfl,rfl,rfl,rfl,rfl,rfl,rfl,rfl,rfl,rfl,trivial⟩ ?_
 intro k s ⟨hk,hd⟩
 obtain⟨j,hj⟩:∃j,N-k=j+1:=⟨N-k-1,by omega⟩
 rw[hj,Af]at hd
 have hq:HQ (p2 k) 10000:=qW.mono (by omega)
 have hqn:HQ (-p2 k) 10000:=@HQ.neg _ _ hq
 obtain⟨r1,r2,r3⟩:=row (-p2 k) 10000 hqn (by decide)
 have hsg:=f7 ((bd b).E (-p2 k))
 have n1:=dO (ofQ (p2 k)) (ofQ (p2 k)) (hx:=Vq.ofQ (h:=hq)) (hy:=Vq.ofQ (h:=hq)) (by decide) (by decide)
 rw[←jL]at n1
 have hq1:HQ (p2 (k+1)) 10000:=qW.mono (by omega)
 have n2:=Dx (ofQ (p2 (k+1))) (hx:=Vq.ofQ (h:=hq1)) (by decide)
 rw[←jL]at hd
 repeat refine aa rfl ?_
 refine ak 7 [19,20,21,22,23,24,25] (by decide +kernel) ?_
 repeat refine aa rfl ?_
 refine am rfl rfl rfl r1 rfl rfl ?_
 repeat refine aa rfl ?_
 refine am rfl rfl rfl r2 rfl rfl ?_
 repeat refine aa rfl ?_
 refine aS rfl rfl rfl r3 rfl rfl rfl ?_
 repeat refine aa rfl ?_
 refine ab rfl ?_ ?_<;>intro h
 ·have h1:=hsg.1 (of_decide_eq_true h)
  clear h
  rw[if_pos h1]at hd
  repeat refine aa rfl ?_
  refine am rfl rfl rfl n1 rfl rfl ?_
  repeat refine aa rfl ?_
  refine am rfl rfl rfl n2 rfl rfl ?_
  repeat refine aa rfl ?_
  have hk1:k+1<N:=by
   rcases Nat.lt_or_ge (k+1) N with h|h
   ·exact h
   ·rw[show j=0 by omega]at hd;cases hd
  have hd1:(bd b).dbl (-1) (N-(k+1)) (p2 (k+1))=some Wl:=by rw[show N-(k+1)=j by omega];exact hd
  exact⟨k+1,⟨hk1,hd1⟩,by omega,rfl,rfl,rfl,rfl,rfl,rfl,rfl,rfl,rfl,rfl,trivial⟩
 ·have h1:¬0<(bd b).E (-p2 k):=fun h2=>(of_decide_eq_false h) (hsg.2 h2)
  clear h
  rw[if_neg h1]at hd
  cases hd
  clear hWl hj r1 r2 r3 hsg n1 n2 hq1
  repeat refine aa rfl ?_
  refine am rfl rfl rfl w1 rfl rfl ?_
  repeat refine aa rfl ?_
  refine aq (fun k':Nat=>k'<N∧(bd b).dbl 1 (N-k') (p2 k')=some Wh) (fun k'=>[(1,.ptr 1 1 0 0),(2,.ptr 2 1 0 0),(3,.ptr 3 1 0 0),(4,.ptr 4 1 0 0),(5,.ptr 5 1 0 0)])
   (fun k'=>[(1,1,⟨29,6,[eB b],2⟩),(2,1,⟨33,8,[zN++zN],2⟩),(3,1,⟨26,4,[eR (ofQ (p2 k'))],2⟩),(4,1,⟨26,4,[eR (ofQ (-p2 k))],2⟩),(5,1,⟨26,4,[eR (ofQ (p2 k'))],2⟩)]) (fun k'=>N-k') 0
   ⟨by omega,hWh⟩ ⟨rfl,rfl,rfl,rfl,rfl,rfl,rfl,rfl,rfl,rfl,trivial⟩ ?_
  intro q s2 ⟨hk',hd⟩
  obtain⟨j,hj⟩:∃j,N-q=j+1:=⟨N-q-1,by omega⟩
  rw[hj,Ag]at hd
  have hqq:HQ (p2 q) 10000:=qW.mono (by omega)
  obtain⟨r1,r2,r3⟩:=row (p2 q) 10000 hqq (by decide)
  have hsg:=ca ((bd b).E (p2 q))
  have n1:=dO (ofQ (p2 q)) (ofQ (p2 q)) (hx:=Vq.ofQ (h:=hqq)) (hy:=Vq.ofQ (h:=hqq)) (by decide) (by decide)
  rw[←jL]at n1
  rw[←jL]at hd
  repeat refine aa rfl ?_
  refine ak 7 [32,33,34,35,36,37,38] (by decide +kernel) ?_
  repeat refine aa rfl ?_
  refine am rfl rfl rfl r1 rfl rfl ?_
  repeat refine aa rfl ?_
  refine am rfl rfl rfl r2 rfl rfl ?_
  repeat refine aa rfl ?_
  refine aS rfl rfl rfl r3 rfl rfl rfl ?_
  repeat refine aa rfl ?_
  refine ab rfl ?_ ?_<;>intro h
  ·have h1:=hsg.1 (of_decide_eq_true h)
   clear h
   rw[if_pos h1]at hd
   repeat refine aa rfl ?_
   refine am rfl rfl rfl n1 rfl rfl ?_
   repeat refine aa rfl ?_
   have hk1:q+1<N:=by
    rcases Nat.lt_or_ge (q+1) N with h|h
    ·exact h
    ·rw[show j=0 by omega]at hd;cases hd
   have hd1:(bd b).dbl 1 (N-(q+1)) (p2 (q+1))=some Wh:=by rw[show N-(q+1)=j by omega];exact hd
   exact⟨q+1,⟨hk1,hd1⟩,by omega,rfl,rfl,rfl,rfl,rfl,rfl,rfl,rfl,rfl,rfl,trivial⟩
  ·have h1:¬(bd b).E (p2 q)<0:=fun h2=>(of_decide_eq_false h) (hsg.2 h2)
   clear h
   rw[if_neg h1]at hd
   cases hd
   clear hWh hj r1 r2 r3 hsg n1
   have w0:=aL 0 ⟨by decide,by decide⟩
   rw[show(((0:Int)):Rat)=0 from rfl]at w0
   rw[Aq]at hx
   have hL:∀t∈[0,-p2 k,p2 q],HQ t 10000:=by
    intro t ht
    simp at ht
    rcases ht with rfl|rfl|rfl
    ·exact HQ.zero.mono (by decide)
    ·exact hqn
    ·exact hqq
   repeat refine aa rfl ?_
   refine bC [46] [3,4] (by decide +kernel) ?_
   repeat refine aa rfl ?_
   refine am rfl rfl rfl w0 rfl rfl ?_
   repeat refine aa rfl ?_
   refine B1 rfl rfl rfl (bt 1 rfl rfl rfl rfl rfl rfl rfl rfl rfl rfl rfl (by repeat' constructor) rfl ⟨sC rfl,?_⟩)
   repeat refine aa rfl ?_
   have hrows:([0,-p2 k,p2 q]:List Rat).map (fun t=>eR (ofQ t))=[eR (ofQ 0),eR (ofQ (-p2 k)),eR (ofQ (p2 q))]:=rfl
   refine fp [(1,.ptr 1 1 0 0),(2,.ptr 2 1 0 0),(4,.ptr 4 1 0 0),(5,.ptr 5 1 0 0),(46,.als 46 ((s2.own 46).1+1) 0 3),(47,I 3),(48,I ((0:Nat):Int))]
    [(1,1,⟨29,6,[eB b],2⟩),(2,1,⟨33,8,[zN++zN],2⟩),(4,1,⟨26,4,[eR (ofQ (-p2 k))],2⟩),(5,1,⟨26,4,[eR (ofQ (p2 q))],2⟩),(46,(s2.own 46).1+1,⟨26,4,[eR (ofQ 0),eR (ofQ (-p2 k)),eR (ofQ (p2 q))],1⟩)]
    ⟨rfl,rfl,rfl,rfl,rfl,rfl,rfl,rfl,rfl,rfl,rfl,rfl,trivial⟩ ?_
   generalize (s2.own 46).1+1=g
   rw[←hrows]
   intro s3
   generalize hLL:([0,-p2 k,p2 q]:List Rat)=T3 at *
   have hT3:T3.length=3:=by rw[←hLL];rfl
   refine aq (fun i:Nat=>i≤3∧(match f3 (bd b) (T3.drop i) with|some x=>some x|none=>(bd b).bis N (-p2 k) (p2 q))=some x) (fun i=>[(1,.ptr 1 1 0 0),(2,.ptr 2 1 0 0),(4,.ptr 4 1 0 0),(5,.ptr 5 1 0 0),(46,.als 46 g 0 3),(47,I 3),(48,I (i:Nat))])
    (fun i=>[(1,1,⟨29,6,[eB b],2⟩),(2,1,⟨33,8,[zN++zN],2⟩),(4,1,⟨26,4,[eR (ofQ (-p2 k))],2⟩),(5,1,⟨26,4,[eR (ofQ (p2 q))],2⟩),(46,g,⟨26,4,T3.map (fun t=>eR (ofQ t)),1⟩)]) (fun i=>3-i) 0
    ⟨Nat.zero_le _,hx⟩ ⟨rfl,rfl,rfl,rfl,rfl,rfl,rfl,rfl,rfl,rfl,rfl,rfl,trivial⟩ ?_
   intro i s4 ⟨hi,hF⟩
   repeat refine aa rfl ?_
   refine ab rfl ?_ ?_<;>intro h
   ·have hlt:i<3:=by have:=of_decide_eq_true h;omega
    clear h
    obtain⟨t,ht⟩:=aI (show i<T3.length by omega)
    have hrow:(T3.map (fun t=>eR (ofQ t)))[i]? = some (eR (ofQ t)):=by rw[List.getElem?_map,ht];rfl
    have htq:=hL t (List.mem_of_getElem? ht)
    have hw:=iA i
    obtain⟨r1,r2,r3⟩:=row t 10000 htq (by decide)
    have hgs:=mj hb htq (by decide) (hex t)
    have hdr:f3 (bd b) (T3.drop i)=match (bd b).at1 t with|some x=>some x|none=>f3 (bd b) (T3.drop (i+1)):=by
     obtain⟨hl1,h2⟩:=List.getElem?_eq_some_iff.1 ht
     rw[List.drop_eq_getElem_cons hl1,h2,f3]
    rw[hdr,Bd.at1,←gR hb (hex t)]at hF
    rw[←gR hb (hex t)]at hgs
    repeat refine aa rfl ?_
    refine ic rfl rfl rfl rfl rfl rfl rfl rfl rfl ?_
    rw[Int.toNat_natCast,Nat.zero_add i]
    refine br rfl rfl (bJ rfl rfl rfl hrow rfl) ?_
    repeat refine aa rfl ?_
    refine am rfl rfl rfl r1 rfl rfl ?_
    repeat refine aa rfl ?_
    refine am rfl rfl rfl r2 rfl rfl ?_
    repeat refine aa rfl ?_
    refine aS rfl rfl rfl r3 rfl rfl rfl ?_
    repeat refine aa rfl ?_
    have hs0:=kF ((bd b).E t)
    refine ab rfl ?_ ?_<;>intro h
    ·have h1:=hs0.1 (of_decide_eq_true h)
     clear h
     rw[if_pos h1]at hF
     simp only[Option.some.injEq]at hF
     subst hF
     repeat refine aa rfl ?_
     exact aG rfl rfl rfl
    ·have h1:¬(bd b).E t=0:=fun h2=>(of_decide_eq_false h) (hs0.2 h2)
     clear h
     rw[if_neg h1]at hF
     cases hgg:(bd b).guess (fb b t) t with
     |none =>
      rw[hgg]at hgs hF
      simp only at hF
      rw[BI]at hgs
      repeat refine aa rfl ?_
      refine am rfl rfl rfl hgs rfl rfl ?_
      repeat refine aa rfl ?_
      exact⟨i+1,⟨by omega,hF⟩,by omega,rfl,rfl,rfl,rfl,rfl,rfl,congrArg I hw,rfl,rfl,rfl,rfl,rfl,trivial⟩
     |some y =>
      rw[hgg]at hgs hF
      simp only[Option.some.injEq]at hF
      subst hF
      rw[BI]at hgs
      repeat refine aa rfl ?_
      refine am rfl rfl rfl hgs rfl rfl ?_
      repeat refine aa rfl ?_
      exact aG rfl rfl rfl
   ·have hie:i=3:=by have:=of_decide_eq_false h;omega
    clear h
    rw[hie,List.drop_eq_nil_of_le (by omega),f3]at hF
    simp only at hF
    have hd0:Dy N 0 (-p2 k):=⟨-((2^k:Nat):Int),by rw[p2];push_cast;grind,by rw[Int.natAbs_neg,Int.natAbs_natCast];exact Nat.pow_le_pow_right (by decide) (by omega)⟩
    have hd1:Dy N 0 (p2 q):=⟨((2^q:Nat):Int),by rw[p2];push_cast;grind,by rw[Int.natAbs_natCast];exact Nat.pow_le_pow_right (by decide) (by omega)⟩
    have w2:=aL 2 ⟨by decide,by decide⟩
    rw[show(((2:Int)):Rat)=2 from rfl]at w2
    have v2:Vq (ofQ 2) 2 4:=Vq.ofQ (h:=HQ.two)
    repeat refine aa rfl ?_
    refine aq (fun u:Nat × Rat × Rat=>u.1≤N∧(bd b).bis (N-u.1) u.2.1 u.2.2=some x∧Dy N u.1 u.2.1∧Dy N u.1 u.2.2) (fun u=>[(1,.ptr 1 1 0 0),(2,.ptr 2 1 0 0),(4,.ptr 4 1 0 0),(5,.ptr 5 1 0 0)])
     (fun u=>[(1,1,⟨29,6,[eB b],2⟩),(2,1,⟨33,8,[zN++zN],2⟩),(4,1,⟨26,4,[eR (ofQ u.2.1)],2⟩),(5,1,⟨26,4,[eR (ofQ u.2.2)],2⟩)]) (fun u=>N-u.1) (0,-p2 k,p2 q)
     ⟨Nat.zero_le _,hF,hd0,hd1⟩ ⟨rfl,rfl,rfl,rfl,rfl,rfl,rfl,rfl,trivial⟩ ?_
    rintro⟨j,lo,hi⟩ s5 ⟨hj,hB,hlo,hhi⟩
    simp only at hj hB hlo hhi
    dsimp only
    obtain⟨n,hn⟩:∃n,N-j=n+1:=by
     rcases Nat.eq_zero_or_pos (N-j) with h|h
     ·rw[h]at hB;cases hB
     ·exact⟨N-j-1,by omega⟩
    rw[hn,Bd.bis]at hB
    have hm:=hlo.mid hhi
    have hl2:=hlo.up
    have hh2:=hhi.up
    have ql:=hlo.hq
    have qh:=hhi.hq
    have qm:=hm.hq
    have a1:=dO (ofQ lo) (ofQ hi) (hx:=Vq.ofQ (h:=ql)) (hy:=Vq.ofQ (h:=qh)) (by omega) (by omega)
    have vs:Vq (ofQ (lo+hi)) (lo+hi) ((j+N)/16+1+((j+N)/16+1)+1):=Vq.ofQ (h:=@HQ.add _ _ _ _ ql qh)
    have a2:=mB (ofQ (lo+hi)) (ofQ 2) (hx:=vs) (hy:=v2) (by omega) (by decide) (by decide)
    obtain⟨r1,r2,r3⟩:=row ((lo+hi)/2) _ qm (by omega)
    have hgs:=mj hb qm (by omega) (hex ((lo+hi)/2))
    rw[Bd.at1,←gR hb (hex ((lo+hi)/2))]at hB
    rw[←gR hb (hex ((lo+hi)/2))]at hgs
    generalize (lo+hi)/2=t at *
    have hs0:=kF ((bd b).E t)
    have hs1:=ca ((bd b).E t)
    repeat refine aa rfl ?_
    refine am rfl rfl rfl a1 rfl rfl ?_
    repeat refine aa rfl ?_
    refine am rfl rfl rfl w2 rfl rfl ?_
    repeat refine aa rfl ?_
    refine am rfl rfl rfl a2 rfl rfl ?_
    repeat refine aa rfl ?_
    refine am rfl rfl rfl r1 rfl rfl ?_
    repeat refine aa rfl ?_
    refine am rfl rfl rfl r2 rfl rfl ?_
    repeat refine aa rfl ?_
    refine aS rfl rfl rfl r3 rfl rfl rfl ?_
    repeat refine aa rfl ?_
    refine ab rfl ?_ ?_<;>intro h
    ·have h1:=hs0.1 (of_decide_eq_true h)
     clear h
     rw[if_pos h1]at hB
     simp only[Option.some.injEq]at hB
     subst hB
     repeat refine aa rfl ?_
     exact aG rfl rfl rfl
    ·have h1:¬(bd b).E t=0:=fun h2=>(of_decide_eq_false h) (hs0.2 h2)
     clear h
     rw[if_neg h1]at hB
     cases hgg:(bd b).guess (fb b t) t with
     |none =>
      rw[hgg]at hgs hB
      simp only at hB
      rw[BI]at hgs
      repeat refine aa rfl ?_
      refine am rfl rfl rfl hgs rfl rfl ?_
      repeat refine aa rfl ?_
      refine ab rfl ?_ ?_<;>intro h
      ·have h2:=hs1.1 (of_decide_eq_true h)
       clear h
       rw[if_pos h2]at hB
       repeat refine aa rfl ?_
       exact⟨(j+1,t,hi),⟨by simp only;omega,by simp only;rw[show N-(j+1)=n by omega];exact hB,hm,hh2⟩,by simp only;omega,rfl,rfl,rfl,rfl,rfl,rfl,rfl,rfl,trivial⟩
      ·have h2:¬(bd b).E t<0:=fun h3=>(of_decide_eq_false h) (hs1.2 h3)
       clear h
       rw[if_neg h2]at hB
       repeat refine aa rfl ?_
       exact⟨(j+1,lo,t),⟨by simp only;omega,by simp only;rw[show N-(j+1)=n by omega];exact hB,hl2,hm⟩,by simp only;omega,rfl,rfl,rfl,rfl,rfl,rfl,rfl,rfl,trivial⟩
     |some y =>
      rw[hgg]at hgs hB
      simp only[Option.some.injEq]at hB
      subst hB
      rw[BI]at hgs
      repeat refine aa rfl ?_
      refine am rfl rfl rfl hgs rfl rfl ?_
      repeat refine aa rfl ?_
      exact aG rfl rfl rfl
theorem p7 {l:List Int} {x:Int} (h:x∈l):x∈Lib.compact l:=by
 have key:∀n (hn:n<l.length),∃m,∃hm:m<l.length,l[m]=l[n]∧Lib.keeps l.toArray m=true:=by
  intro n
  induction n with
  |zero=>intro hn;exact⟨0,hn,rfl,by simp[Lib.keeps]⟩
  |succ n ih =>
   intro hn
   by_cases he:l[n+1]=l[n]
   ·obtain⟨m,hm,h1,h2⟩:=ih (by omega)
    exact⟨m,hm,h1.trans he.symm,h2⟩
   ·refine⟨n+1,hn,rfl,?_⟩
    rw[Lib.keeps,decide_eq_true_eq]
    right
    simp only[List.getElem!_toArray,Nat.add_sub_cancel]
    rw[getElem!_pos l (n+1) hn,getElem!_pos l n (by omega)]
    exact he
 obtain⟨n,hn,hx⟩:=List.mem_iff_getElem.1 h
 obtain⟨m,hm,h1,h2⟩:=key n hn
 rw[Lib.compact,Lib.compactUpTo]
 refine List.mem_map.2 ⟨m,List.mem_filter.2 ⟨List.mem_range.2 hm,h2⟩,?_⟩
 simp only[List.getElem!_toArray]
 rw[getElem!_pos l m hm,h1,hx]
theorem i4 {l:List SR} {s:SR} (h:s∈l):s.x∈bm l:=by
 rw[bm]
 refine p7 ?_
 have:s.x∈l.map (·.x):=List.mem_map.2 ⟨s,h,rfl⟩
 exact(List.mergeSort_perm _ _).mem_iff.2 this
def dN (b:BR):Prop:=ct b bM=false∧∀r∈bj b.l,ct b r=false
theorem fM {b:BR} {A B:Rat}:jQ b A B=true↔cB b.l A B b.l.length∧ag (yT b.l A B) b.l.length<(b.w:Rat)*(A+B*b.a.val):=by
 rw[jQ,@decide_eq_true_iff _ (Classical.propDecidable _)]
theorem jf {b:BR} {A B:Rat} (h:jQ b A B=false):¬(cB b.l A B b.l.length∧ag (yT b.l A B) b.l.length<(b.w:Rat)*(A+B*b.a.val)):=by
 intro h1
 rw[fM.2 h1]at h
 cases h
theorem ia:(ofQ ((1:Int):Rat)).val=1:=by rw[ofQ_val];rfl
theorem zero_val:(ofQ ((0:Int):Rat)).val=0:=by rw[ofQ_val];rfl
theorem jJ:(ofQ ((-1:Int):Rat)).val = -1:=by rw[ofQ_val];rfl
theorem i7 {b:BR} (h:dN b):¬((∀i,i<(bd b).N→(bd b).lim i)∧ag (bd b).cap (bd b).N<(bd b).w):=by
 have h1:=jf h.1
 rw[show bM.z.val=1 from ia,show bM.t.val=0 from zero_val]at h1
 intro⟨h2,h3⟩
 refine h1 ⟨fun i hi _=>h2 i hi,?_⟩
 have e:ag (yT b.l 1 0) b.l.length=ag (bd b).cap (bd b).N:=bu fun i hi=>by
  rw[yT,if_pos (by grind)]
  show cI b.l i*(1+0*xI b.l i)=cI b.l i
  grind
 rw[e]
 have h4:ag (bd b).cap (bd b).N<(b.w:Rat):=h3
 grind
theorem qM {b:BR} (hb:b.Ok) (h:dN b) (t:Rat):∃z,(bd b).Least z t :=
 ⟨_,kI hb (Bd.enough (fC hb) t (i7 h))⟩
theorem vD {b:BR} (h:dN b):(bd b).NoTip:=by
 intro s hs i0 hi0 hl hlt
 have hx:=i4 (aH (l:=b.l) hi0)
 have key:∀A B:Rat,(∀X:Rat,A+B*X=s*(X-(bd b).X i0))→jQ b A B=true:=by
  intro A B hAB
  refine fM.2 ⟨fun i hi hp=>hl i hi (by rw[hAB]at hp;exact hp),?_⟩
  have e:ag (yT b.l A B) b.l.length=ag (fun i=>if 0<s*((bd b).X i-(bd b).X i0) then(bd b).cap i*(s*((bd b).X i-(bd b).X i0)) else 0) (bd b).N:=bu fun i hi=>by
   rw[yT,hAB];rfl
  rw[e,hAB]
  exact hlt
 rcases hs with rfl|rfl
 ·have hm:nh (b.l.getD i0 dS).x∈bj b.l∧ga (b.l.getD i0 dS).x∈bj b.l:=⟨List.mem_append_right _ (List.mem_map.2 ⟨_,hx,rfl⟩),List.mem_append_left _ (List.mem_map.2 ⟨_,hx,rfl⟩)⟩
  have h1:=h.2 _ hm.2
  rw[ct,ga]at h1
  simp only[ofQ_val]at h1
  rw[key _ _ (fun X=>by
   show((-(b.l.getD i0 dS).x:Int):Rat)+((1:Int):Rat)*X=1*(X-((b.l.getD i0 dS).x:Rat))
   push_cast;grind)]at h1
  cases h1
 ·have hm:nh (b.l.getD i0 dS).x∈bj b.l:=List.mem_append_right _ (List.mem_map.2 ⟨_,hx,rfl⟩)
  have h1:=h.2 _ hm
  rw[ct,nh]at h1
  simp only[ofQ_val]at h1
  rw[key _ _ (fun X=>by
   show((b.l.getD i0 dS).x:Rat)+((-1:Int):Rat)*X = -1*(X-((b.l.getD i0 dS).x:Rat))
   push_cast;grind)]at h1
  cases h1
theorem xL {b:BR} (hb:b.Ok) {z t:Rat} {x:Rat × Rat} (h:(bd b).guess z t=some x):HQ x.1 20000∧HQ x.2 20000:=by
 have key:∀p,(bd b).Inc p z t→(bd b).tryP z t p=some x→HQ x.1 20000∧HQ x.2 20000:=by
  intro p hp h
  rw[Bd.tryP]at h
  split at h
  ·cases h
  ·rename_i d hd
   split at h
   ·cases h
    exact tM hb hp hd
   ·cases h
 rw[Bd.guess]at h
 split at h
 ·rename_i y hy
  cases h
  exact key _ (BO hb z t) hy
 ·exact key _ (BK hb z t) h
theorem oM {b:BR} (hb:b.Ok) {t:Rat} {m:Nat} (ht:HQ t m) (hm:m≤19000) (hex:∃z,(bd b).w≤(bd b).F z t) {x:Rat × Rat} (h:(bd b).at1 t=some x):HQ x.1 24000∧HQ x.2 20000:=by
 rw[Bd.at1]at h
 split at h
 ·cases h
  rw[←gR hb hex]
  exact⟨(ta hb ht hex).mono (by omega),ht.mono (by omega)⟩
 ·have:=xL hb h
  exact⟨this.1.mono (by omega),this.2⟩
theorem Ch {b:BR} (hb:b.Ok) (hex:∀t,∃z,(bd b).w≤(bd b).F z t) {N:Nat} (hN:N≤150000) {x:Rat × Rat}:∀(n j:Nat) (lo hi:Rat),n+j≤N→Dy N j lo→Dy N j hi→(bd b).bis n lo hi=some x→HQ x.1 24000∧HQ x.2 20000:=by
 intro n
 induction n with
 |zero=>intro j lo hi _ _ _ h;cases h
 |succ n ih =>
  intro j lo hi hj hlo hhi h
  have hm:=hlo.mid hhi
  rw[Bd.bis]at h
  split at h
  ·rename_i y hy
   cases h
   exact oM hb hm.hq (by omega) (hex _) hy
  ·split at h
   ·exact ih (j+1) _ _ (by omega) hm hhi.up h
   ·exact ih (j+1) _ _ (by omega) hlo.up hm h
theorem tC (b:Bd) (s:Rat):∀(n k:Nat) (W:Rat),b.dbl s n (p2 k)=some W→∃m,m<n+k∧W=p2 m:=by
 intro n
 induction n with
 |zero=>intro k W h;cases h
 |succ n ih =>
  intro k W h
  rw[Bd.dbl]at h
  split at h
  ·rw[←jL]at h
   obtain⟨m,h1,h2⟩:=ih (k+1) W h
   exact⟨m,by omega,h2⟩
  ·cases h
   exact⟨k,by omega,rfl⟩
theorem Du {b:BR} (hb:b.Ok) (hex:∀t,∃z,(bd b).w≤(bd b).F z t) {x:Rat × Rat} (h:(bd b).eqQ 150000=some x):HQ x.1 24000∧HQ x.2 20000:=by
 generalize hN:(150000:Nat)=N at h
 rw[Bd.eqQ]at h
 split at h
 ·rename_i wl wh h1 h2
  obtain⟨k,hk,rfl⟩:=tC _ _ _ 0 _ (show(bd b).dbl (-1) N (p2 0)=some wl from h1)
  obtain⟨q,hq,rfl⟩:=tC _ _ _ 0 _ (show(bd b).dbl 1 N (p2 0)=some wh from h2)
  have hqk:HQ (p2 k) 10000:=qW.mono (by omega)
  have hqq:HQ (p2 q) 10000:=qW.mono (by omega)
  have hqn:HQ (-p2 k) 10000:=@HQ.neg _ _ hqk
  split at h
  ·rename_i y hy
   cases h
   rw[Bd.fst3]at hy
   split at hy
   ·rename_i z hz
    cases hy
    exact oM hb HQ.zero (by decide) (hex _) hz
   ·split at hy
    ·rename_i z hz
     cases hy
     exact oM hb hqn (by decide) (hex _) hz
    ·exact oM hb hqq (by decide) (hex _) hy
  ·refine Ch hb hex (N:=N) (show N≤150000 by omega) N 0 _ _ (by omega) ?_ ?_ h
   ·exact⟨-((2^k:Nat):Int),by rw[p2];push_cast;grind,by rw[Int.natAbs_neg,Int.natAbs_natCast];exact Nat.pow_le_pow_right (by decide) (by omega)⟩
   ·exact⟨((2^q:Nat):Int),by rw[p2];push_cast;grind,by rw[Int.natAbs_natCast];exact Nat.pow_le_pow_right (by decide) (by omega)⟩
 ·cases h
theorem BS (n:Nat):65536^n=2^(16*n):=by rw[show(65536:Nat)=2^16 by decide,←Nat.pow_mul]
theorem Dt {b:BR} (hb:b.Ok) (hs:(bd b).Sz) (h:dN b):∃x,(bd b).eqQ 150000=some x∧(bd b).Bal x.1 x.2∧HQ x.1 24000∧HQ x.2 20000:=by
 have hex:∀t,∃z,(bd b).w≤(bd b).F z t:=fun t=>Bd.enough (fC hb) t (i7 h)
 obtain⟨m,hm⟩:∃m,m=3000:=⟨_,rfl⟩
 have hK:65536^3000=2^(16*m):=by rw[←hm];exact BS m
 have hL:65536^(3000+3000+1)=2^(16*(m+m+1)):=by rw[←hm];exact BS (m+m+1)
 obtain⟨x,h1,h2⟩:=Bd.eq_some (fC hb) hs (qM hb h) (vD h) (n:=150000) hK hL (by omega) (by omega)
 exact⟨x,h1,h2,Du hb hex h1⟩
theorem fJ {b:BR} (hb:b.Ok) {z t A B:Rat}:gi b.l z t A B=true↔(bd b).Free z t A B:=by
 have hcr:=(fC hb).crv
 rw[gi,List.all_eq_true]
 constructor
 ·intro h i hi
  have h1:=h _ (aH (l:=b.l) hi)
  rw[rT,decide_eq_true_eq]at h1
  refine⟨fun hp p hpr=>?_,fun hp p hpl=>?_⟩
  ·have e:p=(bd b).pR z t i:=InR.uniq (hcr i hi) hpr mE
   subst e
   rcases Classical.em (rV (b.l.getD i dS) z t=0) with g|g
   ·exact g
   ·exact absurd (.inl ⟨hp,g⟩) h1
  ·have e:p=(bd b).pL z t i:=InL.uniq (hcr i hi) hpl mD
   subst e
   rcases Classical.em (lV (b.l.getD i dS) z t=0) with g|g
   ·exact g
   ·exact absurd (.inr ⟨hp,g⟩) h1
 ·intro h s hs
  obtain⟨i,hi,rfl⟩:=List.mem_iff_getElem.1 hs
  have e:b.l.getD i dS=b.l[i]:=by rw[List.getD_eq_getElem?_getD,List.getElem?_eq_getElem hi];rfl
  obtain⟨h1,h2⟩:=h i hi
  rw[rT,decide_eq_true_eq,←e]
  rintro(⟨g1,g2⟩|⟨g1,g2⟩)
  ·exact g2 (h1 g1 _ mE)
  ·exact g2 (h2 g1 _ mD)
theorem sq {b:BR} (hb:b.Ok) {z t:Rat}:eJ b z t=true↔∃A B,(bd b).Dir A B∧(bd b).Free z t A B:=by
 rw[eJ,List.any_eq_true]
 constructor
 ·rintro⟨d,hd,hf⟩
  rw[fJ hb]at hf
  refine⟨_,_,?_,hf⟩
  rw[dZ,bj,List.mem_append,List.mem_append]at hd
  rcases hd with(hd|hd)|hd
  ·obtain⟨x,hx,rfl⟩:=List.mem_map.1 hd
   obtain⟨s,hs,rfl⟩:=i_ hx
   obtain⟨i,hi,rfl⟩:=List.mem_iff_getElem.1 hs
   have e:b.l.getD i dS=b.l[i]:=by rw[List.getD_eq_getElem?_getD,List.getElem?_eq_getElem hi];rfl
   refine .inr (.inr ⟨i,hi,.inl ⟨?_,ia⟩⟩)
   rw[ga,ofQ_val]
   show _ = -((b.l.getD i dS).x:Rat)
   rw[e];push_cast;rfl
  ·obtain⟨x,hx,rfl⟩:=List.mem_map.1 hd
   obtain⟨s,hs,rfl⟩:=i_ hx
   obtain⟨i,hi,rfl⟩:=List.mem_iff_getElem.1 hs
   have e:b.l.getD i dS=b.l[i]:=by rw[List.getD_eq_getElem?_getD,List.getElem?_eq_getElem hi];rfl
   refine .inr (.inr ⟨i,hi,.inr ⟨?_,jJ⟩⟩)
   rw[nh,ofQ_val]
   show _=((b.l.getD i dS).x:Rat)
   rw[e]
  ·simp at hd
   rcases hd with rfl|rfl
   ·exact .inl ⟨ia,zero_val⟩
   ·exact .inr (.inl ⟨jJ,zero_val⟩)
 ·rintro⟨A,B,hd,hf⟩
  rcases hd with⟨rfl,rfl⟩|⟨rfl,rfl⟩|⟨i,hi,⟨rfl,rfl⟩|⟨rfl,rfl⟩⟩
  ·refine⟨bM,by simp[dZ],?_⟩
   rw[fJ hb,show bM.z.val=1 from ia,show bM.t.val=0 from zero_val];exact hf
  ·refine⟨rc,by simp[dZ],?_⟩
   rw[fJ hb,show rc.z.val = -1 from jJ,show rc.t.val=0 from zero_val];exact hf
  ·have hx:=i4 (aH (l:=b.l) hi)
   refine⟨ga (b.l.getD i dS).x,?_,?_⟩
   ·rw[dZ,bj]
    exact List.mem_append_left _ (List.mem_append_left _ (List.mem_map.2 ⟨_,hx,rfl⟩))
   ·rw[fJ hb,ga,ia,ofQ_val]
    have e:(((-(b.l.getD i dS).x:Int)):Rat) = -(bd b).X i:=by
     show _ = -((b.l.getD i dS).x:Rat)
     push_cast;rfl
    rw[e];exact hf
  ·have hx:=i4 (aH (l:=b.l) hi)
   refine⟨nh (b.l.getD i dS).x,?_,?_⟩
   ·rw[dZ,bj]
    exact List.mem_append_left _ (List.mem_append_right _ (List.mem_map.2 ⟨_,hx,rfl⟩))
   ·rw[fJ hb,nh,jJ,ofQ_val];exact hf
theorem Cx {b:BR} (hb:b.Ok) {z t:Rat} (h:(bd b).Bal z t):eJ b z t=false↔∀z' t',(bd b).Bal z' t'→z'=z∧t'=t:=by
 have h1:=sq (z:=z) (t:=t) hb
 rw[Bd.loose_iff (fC hb) h]at h1
 constructor
 ·intro h2 z' t' h3
  rcases Classical.em (z'=z) with g|g
  ·rcases Classical.em (t'=t) with g2|g2
   ·exact⟨g,g2⟩
   ·rw[h1.2 ⟨z',t',h3,.inr g2⟩]at h2;cases h2
  ·rw[h1.2 ⟨z',t',h3,.inl g⟩]at h2;cases h2
 ·intro h2
  cases hl:eJ b z t with
  |false=>rfl
  |true =>
   obtain⟨z',t',h3,h4⟩:=h1.1 hl
   obtain⟨rfl,rfl⟩:=h2 z' t' h3
   simp at h4
theorem tq {b:BR} (hb:b.Ok) {z t:Rat} (h:(bd b).Bal z t) (A B:Rat):jQ b A B=false:=by
 cases hr:jQ b A B with
 |false=>rfl
 |true =>
  obtain⟨h1,h2⟩:=fM.1 hr
  have h3:=Bd.exclude (fC hb) h (A:=A) (B:=B) h1
  have e:ag (yT b.l A B) b.l.length=ag (fun i=>if 0<A+B*(bd b).X i then(bd b).cap i*(A+B*(bd b).X i) else 0) (bd b).N:=rfl
  rw[←e]at h3
  have h4:(b.w:Rat)*(A+B*b.a.val)≤ag (yT b.l A B) b.l.length:=h3
  grind
theorem uO {b:BR} (hb:b.Ok) {z t:Rat} (h:(bd b).Bal z t):dN b:=⟨tq hb h _ _,fun _ _=>tq hb h _ _⟩
def dA (x:Int):SR:=⟨x,RR.zero,⟨[0],[ofQ ((2:Int):Rat)]⟩⟩
def jp (x:Int):SR:=⟨x,RR.zero,⟨[0,10],[ofQ ((5:Int):Rat),ofQ ((0:Int):Rat)]⟩⟩
def b1:BR:=⟨40,ofQ ((25:Int):Rat),[dA 0,dA 100]⟩
def b2:BR:=⟨80,ofQ ((75:Int):Rat),[jp 0,jp 100]⟩
theorem o_ {z:Int} (h:i64 z):(ofQ (z:Rat)).sz 12:=⟨Nat.le_trans (vI h).sz.1 (by decide),Nat.le_trans (vI h).sz.2 (by decide)⟩
theorem uC:RR.zero.sz 12:=⟨Nat.zero_le _,Nat.zero_le _⟩
theorem Bc {x:Int} (hx:i64 x):(dA x).Lim:=by
 refine⟨hx,uC,⟨fun z hz=>?_,fun m hm=>?_,show 1≤1000000000 by decide,show 1≤1000000000 by decide⟩⟩
 ·simp[dA]at hz;subst hz;exact⟨by decide,by decide⟩
 ·simp only[dA,List.mem_singleton]at hm;subst hm;exact o_ ⟨by decide,by decide⟩
theorem AJ {x:Int} (hx:i64 x):(jp x).Lim:=by
 refine⟨hx,uC,⟨fun z hz=>?_,fun m hm=>?_,show 2≤1000000000 by decide,show 2≤1000000000 by decide⟩⟩
 ·simp[jp]at hz;rcases hz with rfl|rfl<;>exact⟨by decide,by decide⟩
 ·simp only[jp,List.mem_cons,List.not_mem_nil,or_false]at hm
  rcases hm with rfl|rfl<;>exact o_ ⟨by decide,by decide⟩
theorem ov (x:Int):b9 (dA x).k=0:=by
 have h:d7 (dA x).k 0=0:=by
  rw[d7,if_neg,if_neg (by omega)]
  simp only[dA,List.getD_cons_zero,ofQ_val]
  decide
 rw[b9,if_neg (show ¬40<(dA x).k.S.length by simp[dA]),if_neg (show ¬(dA x).k.M.length≠(dA x).k.S.length by simp[dA])]
 show dq (dA x).k 0 1=0
 rw[dq,if_pos h,dq]
theorem n3 (x:Int):b9 (jp x).k=0:=by
 have h:d7 (jp x).k 0=0:=by
  rw[d7,if_neg,if_neg (by omega)]
  simp only[jp,List.getD_cons_zero,ofQ_val]
  decide
 have h1:d7 (jp x).k 1=0:=by
  rw[d7,if_neg,if_neg]
  ·simp[jp]
  ·simp only[jp,List.getD_cons_zero,List.getD_cons_succ,ofQ_val]
   decide
 rw[b9,if_neg (show ¬40<(jp x).k.S.length by simp[jp]),if_neg (show ¬(jp x).k.M.length≠(jp x).k.S.length by simp[jp])]
 show dq (jp x).k 0 2=0
 rw[dq,if_pos h,dq,if_pos h1,dq]
theorem iq {s:SR} (hx : -1000000≤s.x∧s.x≤1000000) (hc:s.c=RR.zero) (hk:b9 s.k=0):lq s=0:=by
 rw[lq,if_neg,hk]
 rw[hc,RR.zero_val]
 rintro(h|h)
 ·omega
 ·revert h;decide
theorem wR:aX b1=0:=by
 rw[aX,if_neg]
 ·rw[bR,if_neg (by decide)]
  show cD lq [dA 0,dA 100]=0
  rw[cD,if_pos (iq ⟨by decide,by decide⟩ rfl (ov _)),cD,if_pos (iq ⟨by decide,by decide⟩ rfl (ov _)),cD]
 ·simp only[b1,ofQ_val]
  decide
theorem wV:aX b2=0:=by
 rw[aX,if_neg]
 ·rw[bR,if_neg (by decide)]
  show cD lq [jp 0,jp 100]=0
  rw[cD,if_pos (iq ⟨by decide,by decide⟩ rfl (n3 _)),cD,if_pos (iq ⟨by decide,by decide⟩ rfl (n3 _)),cD]
 ·simp only[b2,ofQ_val]
  decide
theorem lY:b1.Ok:=by
 refine⟨⟨⟨by decide,by decide⟩,o_ ⟨by decide,by decide⟩,fun s hs=>?_,by decide⟩,wR,by decide,fun s hs=>?_⟩
 ·simp only[b1,List.mem_cons,List.not_mem_nil,or_false]at hs
  rcases hs with rfl|rfl<;>exact Bc ⟨by decide,by decide⟩
 ·simp only[b1,List.mem_cons,List.not_mem_nil,or_false]at hs
  rcases hs with rfl|rfl<;>decide
theorem BE:b2.Ok:=by
 refine⟨⟨⟨by decide,by decide⟩,o_ ⟨by decide,by decide⟩,fun s hs=>?_,by decide⟩,wV,by decide,fun s hs=>?_⟩
 ·simp only[b2,List.mem_cons,List.not_mem_nil,or_false]at hs
  rcases hs with rfl|rfl<;>exact AJ ⟨by decide,by decide⟩
 ·simp only[b2,List.mem_cons,List.not_mem_nil,or_false]at hs
  rcases hs with rfl|rfl<;>decide
theorem o7 (z:Int) (h:i64 z):hq (z:Rat) 4:=(@HQ.int z (aN h.1 h.2)).ok
theorem rG (x:Int) (z t:Rat):fQ (dA x) z t=if z+t*(x:Rat)<0 then 0 else 2*(z+t*(x:Rat)):=by
 rw[fQ,dD]
 show ag (cS (dA x).k.s (dA x).k.m (yQ (dA x) z t)) 1=_
 rw[ag,ag,cS,yQ,a_]
 show 0+(if RR.zero.val+(z+t*(x:Rat))-((0:Int):Rat)<0 then 0 else((ofQ ((2:Int):Rat)).val-0)*(RR.zero.val+(z+t*(x:Rat))-((0:Int):Rat)))=_
 rw[RR.zero_val,ofQ_val,show((0:Int):Rat)=0 from rfl,show((2:Int):Rat)=2 from rfl]
 grind
theorem Cb {z t:Rat}:(bd b1).Bal z t↔z=15∧t = -1/10:=by
 have e:(bd b1).Bal z t↔((0+fQ (dA 0) z t)+fQ (dA 100) z t=((40:Int):Rat)∧(0+fQ (dA 0) z t*((0:Int):Rat))+fQ (dA 100) z t*((100:Int):Rat)=((40:Int):Rat)*(ofQ ((25:Int):Rat)).val):=Iff.rfl
 rw[e,rG,rG,ofQ_val,show((0:Int):Rat)=0 from rfl,show((100:Int):Rat)=100 from rfl,show((40:Int):Rat)=40 from rfl,show((25:Int):Rat)=25 from rfl]
 constructor
 ·rintro⟨h1,h2⟩
  grind
 ·rintro⟨rfl,rfl⟩
  constructor<;>grind
theorem uH:FL b1.l 15 (-1/10)=[ofQ 30,ofQ 10]:=by
 show [ofQ (fQ (dA 0) 15 (-1/10)),ofQ (fQ (dA 100) 15 (-1/10))]=_
 rw[rG,rG,show((0:Int):Rat)=0 from rfl,show((100:Int):Rat)=100 from rfl]
 congr 2
 ·grind
 ·congr 2
  grind
theorem uM:bm b2.l=[0,100]:=by
 rw[bm]
 have:cx (b2.l.map (·.x))=[0,100]:=List.mergeSort_of_pairwise (by decide)
 rw[this]
 decide
theorem yo (x:Int):lj (jp x).k.S.length (jp x).k.s (jp x).k.m=50:=by
 show gH (jp x).k.s (jp x).k.m 2*(-1)=50
 rw[gH,ag,ag,ag,a_,a_]
 show(0+((ofQ ((5:Int):Rat)).val-0)*((0:Int):Rat)+((ofQ ((0:Int):Rat)).val-(ofQ ((5:Int):Rat)).val)*((10:Int):Rat))*(-1)=50
 rw[ofQ_val,ofQ_val]
 decide +kernel
theorem yp (x:Int):a_ (jp x).k.m (jp x).k.S.length=0:=by
 show(ofQ ((0:Int):Rat)).val=0
 rw[ofQ_val];rfl
theorem Ce {A B:Rat}:cB b2.l A B b2.l.length:=by
 intro i hi _
 rcases i with _ | _ | i
 ·exact yp 0
 ·exact yp 100
 ·have:i+1+1<2:=hi
  omega
theorem wW (A B:Rat):ag (yT b2.l A B) b2.l.length=0+(if 0<A+B*0 then 50*(A+B*0) else 0)+(if 0<A+B*100 then 50*(A+B*100) else 0):=by
 show ag (yT b2.l A B) 2=_
 rw[ag,ag,ag,yT,yT]
 have e0:xI b2.l 0=0:=rfl
 have e1:xI b2.l 1=100:=rfl
 have c0:cI b2.l 0=50:=yo 0
 have c1:cI b2.l 1=50:=yo 100
 rw[e0,e1,c0,c1]
theorem Dl:ct b2 (ga 0)=true:=by
 refine fM.2 ⟨Ce,?_⟩
 rw[wW]
 simp only[ga,ofQ_val]
 show(0:Rat)+(if 0<(((-0:Int)):Rat)+((1:Int):Rat)*0 then 50*((((-0:Int)):Rat)+((1:Int):Rat)*0) else 0)+(if 0<(((-0:Int)):Rat)+((1:Int):Rat)*100 then 50*((((-0:Int)):Rat)+((1:Int):Rat)*100) else 0)<((80:Int):Rat)*((((-0:Int)):Rat)+((1:Int):Rat)*(ofQ ((75:Int):Rat)).val)
 rw[ofQ_val]
 decide +kernel
theorem rZ:dy b2 = .tup [.agg (eA (ga 0)),I 13]:=by
 have h1:ct b2 bM=false:=by
  cases h:ct b2 bM with
  |false=>rfl
  |true =>
   obtain⟨_,h2⟩:=fM.1 h
   rw[wW,show bM.z.val=1 from ia,show bM.t.val=0 from zero_val]at h2
   have h3:((80:Int):Rat)*(1+0*(ofQ ((75:Int):Rat)).val)=80:=by rw[ofQ_val];decide +kernel
   have h2:(0:Rat)+(if 0<(1:Rat)+0*0 then 50*(1+0*0) else 0)+(if 0<(1:Rat)+0*100 then 50*(1+0*100) else 0)<((80:Int):Rat)*(1+0*(ofQ ((75:Int):Rat)).val):=h2
   rw[h3]at h2
   grind
 have h2:=Dl
 rw[dy,if_neg (by rw[h1];decide),bj,uM]
 show(match (ga 0::_).find? (ct b2) with|some r=>PV.tup [.agg (eA r),I 13]|none => .tup [.agg (zN++zN),I 0])=_
 rw[List.find?_cons,h2]
def wL (s:SR):Prop:=i64 s.x∧∀z∈s.k.S,i64 z
def nt (l:List SR):Prop:=∀s∈l,wL s
def sX (st:Nat) (s:SR):Prop:=s.k.S.length≤st∧s.k.M.length≤st+1∧s.c.sz 3∧∀m∈s.k.M,m.sz 3
def iI (l:List SR) (most st:Nat):Prop:=l.length≤most∧∀s∈l,sX st s
theorem RR.sz.mono {x:RR} {n m:Nat} (h:x.sz n) (hm:n≤m):x.sz m:=⟨Nat.le_trans h.1 hm,Nat.le_trans h.2 hm⟩
theorem jm {l:List SR} {most st:Nat} (hd:nt l) (h:iI l most st) (hm:most≤1000) (hst:st≤1000):gp l:=by
 refine⟨fun s hs=>?_,by have:=h.1;omega⟩
 obtain⟨h1,h2,h3,h4⟩:=h.2 s hs
 exact⟨(hd s hs).1,h3.mono (by decide),⟨(hd s hs).2,fun m hm=>(h4 m hm).mono (by decide),by omega,by omega⟩⟩
theorem v_ {l:List SR} {most st:Nat} (h:iI l most st) (hm:most≤12) (hst:st≤8):oH l :=
 ⟨Nat.le_trans h.1 hm,fun s hs=>Nat.le_trans (h.2 s hs).1 hst⟩
theorem yZ {b:BR} {most st:Nat} (hw:i64 b.w) (hd:nt b.l) (ha:b.a.sz 3) (h:iI b.l most st) (hm:most≤12) (hst:st≤8) (hc:aX b=0):b.Ok :=
 ⟨⟨hw,ha.mono (by decide),jm hd h (by omega) (by omega)⟩,hc,v_ h hm hst⟩
theorem uo {x:RR} (h:x.sz 3):hq x.val 4:=SZ.hq (n:=3) ⟨h⟩
theorem y2 {b:BR} {most st:Nat} (hw:i64 b.w) (hd:nt b.l) (ha:b.a.sz 3) (h:iI b.l most st) (hm:most≤10) (hst:st≤5) (hc:aX b=0):(bd b).Sz:=by
 refine⟨Nat.le_trans h.1 hm,fun i hi=>?_,fun i hi=>?_,fun i hi=>?_,fun i hi k hk=>?_,fun i hi k hk=>?_,o7 _ hw,d_ (uo ha) (by decide)⟩
 ·exact Nat.le_trans (h.2 _ (aH hi)).1 hst
 ·exact o7 _ (hd _ (aH hi)).1
 ·exact d_ (uo (h.2 _ (aH hi)).2.2.1) (by decide)
 ·exact o7 _ ((hd _ (aH hi)).2 _ (List.mem_of_getElem? (bq (d:=(0:Int)) hk)))
 ·have hcu:=b6 (js hc).2.2 _ (aH (l:=b.l) hi)
  obtain⟨-,hSM,-,-⟩:=cW hcu
  have hk:k<(b.l.getD i dS).k.S.length:=hk
  exact uo ((h.2 _ (aH hi)).2.2.2 _ (List.mem_of_getElem? (bq (d:=RR.zero) (by omega))))
section
variable {α:Type}
theorem pI (P M S:List α) (x y:α):((P++x::(M++y::S)).set P.length y).set (P.length+1+M.length) x=P++y::(M++x::S):=by
 rw[List.set_append_right _ _ (Nat.le_refl _),Nat.sub_self,List.set_cons_zero,List.set_append_right _ _ (by omega),show P.length+1+M.length-P.length=M.length+1 by omega,List.set_cons_succ,List.set_append_right _ _ (Nat.le_refl _),Nat.sub_self,List.set_cons_zero]
theorem pg (P M S:List α) (x y:α):(P++x::(M++y::S))[P.length]? = some x:=by
 rw[List.getElem?_append_right (Nat.le_refl _),Nat.sub_self];rfl
theorem ph (P M S:List α) (x y:α):(P++x::(M++y::S))[P.length+1+M.length]? = some y:=by
 rw[List.getElem?_append_right (by omega),show P.length+1+M.length-P.length=M.length+1 by omega,List.getElem?_cons_succ,List.getElem?_append_right (Nat.le_refl _),Nat.sub_self];rfl
def rK (P X M Y S:List α) (k:Nat):List α:=P++Y.take k++X.drop k++M++X.take k++Y.drop k++S
theorem f9 {l:List α} {k:Nat} {x:α} (hx:l[k]? = some x):l.take (k+1)=l.take k++[x]:=by rw[List.take_add_one,hx];rfl
theorem ez {l:List α} {k:Nat} {x:α} (hx:l[k]? = some x):l.drop k=x::l.drop (k+1):=by
 obtain⟨hl,e⟩:=List.getElem?_eq_some_iff.1 hx
 rw[List.drop_eq_getElem_cons hl,e]
theorem td {P X M Y S:List α} {k:Nat} {x y:α} (hx:X[k]? = some x) (hy:Y[k]? = some y):rK P X M Y S k=(P++Y.take k)++x::((X.drop (k+1)++M++X.take k)++y::(Y.drop (k+1)++S)):=by
 rw[rK,ez hx,ez hy];simp[List.append_assoc]
theorem zo {P X M Y S:List α} {k:Nat} {x y:α} (hx:X[k]? = some x) (hy:Y[k]? = some y):rK P X M Y S (k+1)=(P++Y.take k)++y::((X.drop (k+1)++M++X.take k)++x::(Y.drop (k+1)++S)):=by
 rw[rK,f9 hx,f9 hy];simp[List.append_assoc]
theorem zp (P X M Y S:List α):rK P X M Y S 0=P++X++M++Y++S:=by simp[rK]
theorem Be {P X M Y S:List α} (h:X.length=Y.length):rK P X M Y S X.length=P++Y++M++X++S:=by
 rw[rK,List.take_length,List.drop_length,h,List.take_length,List.drop_length];simp[List.append_assoc]
theorem Bf {P X M Y S:List α} {k:Nat} {x y:α} (hx:X[k]? = some x) (hy:Y[k]? = some y):(rK P X M Y S k)[P.length+k]? = some x:=by
 have hk:k<Y.length:=(List.getElem?_eq_some_iff.1 hy).1
 have h:=pg (P++Y.take k) (X.drop (k+1)++M++X.take k) (Y.drop (k+1)++S) x y
 rw[td hx hy]
 rwa [show(P++Y.take k).length=P.length+k by simp;omega]at h
theorem DI {P X M Y:List α} {k:Nat} (hx:k<X.length) (hy:k<Y.length):(P++Y.take k).length+1+(X.drop (k+1)++M++X.take k).length=P.length+X.length+M.length+k:=by simp;omega
theorem Bh {P X M Y S:List α} {k:Nat} {x y:α} (hx:X[k]? = some x) (hy:Y[k]? = some y):(rK P X M Y S k)[P.length+X.length+M.length+k]? = some y:=by
 have h:=ph (P++Y.take k) (X.drop (k+1)++M++X.take k) (Y.drop (k+1)++S) x y
 rw[td hx hy]
 rwa [DI (List.getElem?_eq_some_iff.1 hx).1 (List.getElem?_eq_some_iff.1 hy).1]at h
theorem Bg {P X M Y S:List α} {k:Nat} {x y:α} (hx:X[k]? = some x) (hy:Y[k]? = some y):((rK P X M Y S k).set (P.length+k) y).set (P.length+X.length+M.length+k) x=rK P X M Y S (k+1):=by
 have hk:k<Y.length:=(List.getElem?_eq_some_iff.1 hy).1
 have h:=pI (P++Y.take k) (X.drop (k+1)++M++X.take k) (Y.drop (k+1)++S) x y
 rw[zo hx hy,←h,td hx hy,DI (List.getElem?_eq_some_iff.1 hx).1 hk,show(P++Y.take k).length=P.length+k by simp;omega]
variable {key:α→Rat}
def fe (key:α→Rat) (l:List α):Prop:=l.Pairwise fun x y=>key x≤key y
theorem jZ {l:List α} {t:Nat} {v:α} (h:fe key l) (hv:l[t]? = some v):∀y∈l.drop t,key v≤key y:=by
 have h2:fe key (l.drop t):=List.Pairwise.sublist (List.drop_sublist t l) h
 rw[ez hv]at h2 ⊢
 intro y hy
 rcases List.mem_cons.1 hy with rfl|hy
 ·exact Rat.le_refl
 ·exact(List.pairwise_cons.1 h2).1 y hy
theorem j0 {l:List α} {t:Nat} {v:α} (h:fe key l) (hv:l[t]? = some v):∀y∈l.take (t+1),key y≤key v:=by
 have h2:fe key (l.take (t+1)):=List.Pairwise.sublist (List.take_sublist (t+1) l) h
 rw[f9 hv]at h2 ⊢
 intro y hy
 rcases List.mem_append.1 hy with hy|hy
 ·exact(List.pairwise_append.1 h2).2.2 y hy v (List.mem_singleton_self _)
 ·rw[List.mem_singleton.1 hy];exact Rat.le_refl
def zO (key:α→Rat) (A B:List α):Prop:=∀x∈A,∀y∈B,key x≤key y
theorem zW {U V:List α} (hU:fe key U) (hV:fe key V) {s t:Nat} (h:s=0∨t=V.length∨∃s' u v,s=s'+1∧U[s']? = some u∧V[t]? = some v∧key u≤key v):zO key (U.take s) (V.drop t):=by
 intro x hx y hy
 rcases h with rfl|rfl|⟨s',u,v,rfl,hu,hv,huv⟩
 ·simp at hx
 ·simp at hy
 ·have h1:=j0 hU hu x hx
  have h2:=jZ hV hv y hy
  grind
theorem lJ {A B:List α} (hA:fe key A) (hB:fe key B) (h:zO key A B):fe key (A++B):=List.pairwise_append.2 ⟨hA,hB,h⟩
theorem gQ {l:List α} (h:fe key l) (n:Nat):fe key (l.take n):=List.Pairwise.sublist (List.take_sublist n l) h
theorem gP {l:List α} (h:fe key l) (n:Nat):fe key (l.drop n):=List.Pairwise.sublist (List.drop_sublist n l) h
theorem pf {U V W1 W2:List α} (hU:fe key U) (hV:fe key V) {s t:Nat} (c1:zO key (U.take s) (V.drop t)) (c2:zO key (V.take t) (U.drop s)) (p1:W1.Perm (U.take s++V.take t)) (p2:W2.Perm (U.drop s++V.drop t)) (s1:fe key W1) (s2:fe key W2) :
  fe key (W1++W2)∧(W1++W2).Perm (U++V):=by
 have b1:zO key (U.take s) (U.drop s):=by
  have h:=hU;rw[←List.take_append_drop s U]at h;exact(List.pairwise_append.1 h).2.2
 have b2:zO key (V.take t) (V.drop t):=by
  have h:=hV;rw[←List.take_append_drop t V]at h;exact(List.pairwise_append.1 h).2.2
 refine⟨lJ s1 s2 fun x hx y hy=>?_,?_⟩
 ·have hx:=List.mem_append.1 (p1.mem_iff.1 hx)
  have hy:=List.mem_append.1 (p2.mem_iff.1 hy)
  rcases hx with hx|hx<;>rcases hy with hy|hy
  ·exact b1 x hx y hy
  ·exact c1 x hx y hy
  ·exact c2 x hx y hy
  ·exact b2 x hx y hy
 ·refine(p1.append p2).trans ?_
  have e:U++V=U.take s++(U.drop s++V):=by rw[←List.append_assoc,List.take_append_drop]
  rw[e,List.append_assoc]
  refine List.Perm.append_left _ ?_
  have e2:U.drop s++V=U.drop s++(V.take t++V.drop t):=by rw[List.take_append_drop]
  rw[e2,←List.append_assoc,←List.append_assoc]
  exact List.Perm.append_right _ List.perm_append_comm
theorem nS {V:List α} (hV:fe key V) {u:α} {t:Nat} (c1:∀y∈V.take t,key y≤key u) (c2:∀y∈V.drop t,key u≤key y):fe key (V.take t++u::V.drop t):=by
 have b2:zO key (V.take t) (V.drop t):=by
  have h:=hV;rw[←List.take_append_drop t V]at h;exact(List.pairwise_append.1 h).2.2
 refine lJ (gQ hV t) (List.pairwise_cons.2 ⟨c2,gP hV t⟩) fun x hx y hy=>?_
 rcases List.mem_cons.1 hy with rfl|hy
 ·exact c1 x hx
 ·exact b2 x hx y hy
theorem qT (V:List α) (u:α) (t:Nat):(V.take t++u::V.drop t).Perm (u::V):=by
 refine List.perm_middle.trans ?_
 rw[List.take_append_drop]
end
set_option maxRecDepth 20000 in
theorem te {K:St→Prop} {s:St} {d g N Q:Nat} {x y z n c:Operand} {tys:Array TypeId} {ty:TypeId} {pos:String} {af:Array Edge} (P X M Y S:List BN) (hXY:X.length=Y.length) (hN:N=(P++X++M++Y++S).length) (hN1:N≤1000) (hQ:Q=P.length+X.length+M.length)
  (hx:s.ev x = .als 5 g 0 N) (hy:s.ev y=I P.length) (hz:s.ev z=I Q) (hn:s.ev n=I X.length) (hc:s.ev c = .clo 203 [])
  (ho:FitO s [(5,g,⟨199,8,(P++X++M++Y++S).map bc,1⟩)])
  (hK:∀s1:St,K (({ reg:=s.reg,own:=(s1.over [] [(5,g,⟨199,8,(P++Y++M++X++S).map bc,1⟩)]).own }:St).putR d (.tup []))) :
  Sm Tryz.prog lay.get s ⟨some d,.call ⟨.value (.func 242),#[x,y,z,n,c],tys⟩,ty,pos,af,none⟩ K:=by
 refine bE layOk rfl rfl Tryz.func242 rfl (by decide) rfl rfl ?_
 show PWP _ _ _ _ (aQ s (([x,y,z,n,c]:List Operand).map s.ev++[]))
 rw[show(([x,y,z,n,c]:List Operand).map s.ev++([]:List PV))=[.als 5 g 0 N,I P.length,I Q,I X.length,.clo 203 []] by simp[hx,hy,hz,hn,hc]]
 rw[show aQ s [.als 5 g 0 N,I P.length,I Q,I X.length,.clo 203 []]=aQ (s.over [] [(5,g,⟨199,8,(P++X++M++Y++S).map bc,1⟩)]) [.als 5 g 0 N,I P.length,I Q,I X.length,.clo 203 []] by rw[Fit.over (l:=[]) ho]]
 have hlen:N=P.length+X.length+M.length+Y.length+S.length:=by rw[hN];simp;omega
 repeat refine aa rfl ?_
 refine aq (fun k=>k≤X.length) (fun k=>[(0,.als 5 g 0 N),(1,I P.length),(2,I Q),(3,I X.length),(10,I (k:Nat))])
  (fun k=>[(5,g,⟨199,8,(rK P X M Y S k).map bc,1⟩)]) (fun k=>X.length-k) 0 (Nat.zero_le _) ⟨rfl,rfl,rfl,rfl,rfl,by rw[zp];rfl,trivial⟩ ?_
 intro k s1 hk
 repeat refine aa rfl ?_
 refine ab rfl ?_ ?_<;>intro h
 ·have hlt:k<X.length:=by have:=of_decide_eq_true h;omega
  clear h
  obtain⟨p,hp⟩:=aI hlt
  obtain⟨q,hq⟩:=aI (show k<Y.length by omega)
  have hw1:IntKind.i64.wrap (((P.length:Nat):Int)+(k:Nat))=((P.length+k:Nat):Int):=by rw[wrap_i64 (by omega) (by omega)];omega
  have hw2:IntKind.i64.wrap (((Q:Nat):Int)+(k:Nat))=((Q+k:Nat):Int):=by rw[wrap_i64 (by omega) (by omega)];omega
  have hw:=iA k
  have hr1:((rK P X M Y S k).map bc)[P.length+k]? = some (bc p):=by rw[List.getElem?_map,Bf hp hq];rfl
  have hr2:((rK P X M Y S k).map bc)[Q+k]? = some (bc q):=by rw[List.getElem?_map,hQ,Bh hp hq];rfl
  repeat refine aa rfl ?_
  refine aM 21 0 [16,17,18,19,20,21,22,23,24,25,26,27,28,29,30,31,32,33,34,35,36] [4,5,6,7] (by decide +kernel) rfl ?_
  repeat refine aa rfl ?_
  rw[hw1,hw2]
  refine ic rfl rfl rfl rfl rfl rfl rfl rfl rfl ?_
  rw[Int.toNat_natCast,Nat.zero_add (Q+k)]
  refine br rfl rfl (bJ rfl rfl rfl hr2 rfl) ?_
  repeat refine aa rfl ?_
  rw[hw1]
  refine ic rfl rfl rfl rfl rfl rfl rfl rfl rfl ?_
  rw[Int.toNat_natCast,Nat.zero_add (P.length+k)]
  refine br rfl rfl (bJ rfl rfl rfl hr1 rfl) ?_
  repeat refine aa rfl ?_
  refine ic rfl rfl rfl rfl rfl rfl rfl rfl rfl ?_
  rw[Int.toNat_natCast,Nat.zero_add (P.length+k)]
  repeat refine aa rfl ?_
  refine bp (bk (kd':=1) rfl rfl rfl hr1 rfl rfl (by repeat' constructor) rfl rfl rfl rfl ?_)
  refine ic rfl rfl rfl rfl rfl rfl rfl rfl rfl ?_
  rw[Int.toNat_natCast,Nat.zero_add (Q+k)]
  refine bp (bk (kd':=1) rfl rfl rfl (row:=bc q) (by
   show(((rK P X M Y S k).map bc).set (P.length+k) _)[Q+k]? = _
   rw[List.getElem?_set_ne (by omega)];exact hr2) rfl rfl (by repeat' constructor) rfl rfl rfl rfl ?_)
  repeat refine aa rfl ?_
  refine⟨k+1,hlt,by omega,rfl,rfl,rfl,rfl,congrArg I hw,?_,trivial⟩
  refine Eq.trans (b:=(g,some (Cont.mk 199 8 ((((rK P X M Y S k).map bc).set (P.length+k) (bc q)).set (Q+k) (bc p)) 1))) rfl ?_
  rw[←List.map_set,←List.map_set,hQ,Bg hp hq]
 ·have hge:k=X.length:=by have:=of_decide_eq_false h;omega
  clear h
  rw[hge,Be hXY]
  repeat refine aa rfl ?_
  exact cf rfl (hK s1)
def BA (P U V S:List BN) (q:List BN × List BN × List BN × List BN):Prop:=q.2.1≠[]∧q.2.2.1≠[]∧q.1.length+q.2.1.length=P.length+U.length∧q.1++q.2.2.1++q.2.1++q.2.2.2=P++V++U++S
def vS (q:List BN × List BN × List BN × List BN):List BN:=q.1++q.2.1++q.2.2.1++q.2.2.2
theorem yJ {P U V S:List BN} {q:List BN × List BN × List BN × List BN} (h:BA P U V S q):(vS q).length=(P++U++V++S).length:=by
 have:=congrArg List.length h.2.2.2
 simp only[vS,List.length_append]at *
 omega
set_option maxRecDepth 20000 in
theorem CJ {K:St→Prop} {s:St} {d g N:Nat} {x y z n c:Operand} {tys:Array TypeId} {ty:TypeId} {pos:String} {af:Array Edge} (P U V S:List BN) (hU:U≠[]) (hV:V≠[]) (hN:N=(P++U++V++S).length) (hN1:N≤1000)
  (hx:s.ev x = .als 5 g 0 N) (hy:s.ev y=I P.length) (hz:s.ev z=I (P.length+U.length:Nat)) (hn:s.ev n=I (P.length+U.length+V.length:Nat)) (hc:s.ev c = .clo 203 [])
  (ho:FitO s [(5,g,⟨199,8,(P++U++V++S).map bc,1⟩)])
  (hK:∀s1:St,K (({ reg:=s.reg,own:=(s1.over [] [(5,g,⟨199,8,(P++V++U++S).map bc,1⟩)]).own }:St).putR d (.tup []))) :
  Sm Tryz.prog lay.get s ⟨some d,.call ⟨.value (.func 240),#[x,y,z,n,c],tys⟩,ty,pos,af,none⟩ K:=by
 have hlen:N=P.length+U.length+V.length+S.length:=by rw[hN];simp;omega
 generalize hm:P.length+U.length=m at *
 refine bE layOk rfl rfl Tryz.func240 rfl (by decide) rfl rfl ?_
 show PWP _ _ _ _ (aQ s (([x,y,z,n,c]:List Operand).map s.ev++[]))
 rw[show(([x,y,z,n,c]:List Operand).map s.ev++([]:List PV))=[.als 5 g 0 N,I P.length,I m,I (m+V.length:Nat),.clo 203 []] by simp[hx,hy,hz,hn,hc]]
 rw[show aQ s [.als 5 g 0 N,I P.length,I m,I (m+V.length:Nat),.clo 203 []]=aQ (s.over [] [(5,g,⟨199,8,(P++U++V++S).map bc,1⟩)]) [.als 5 g 0 N,I P.length,I m,I (m+V.length:Nat),.clo 203 []] by rw[Fit.over (l:=[]) ho]]
 have hwa:IntKind.i64.wrap (((m:Nat):Int)-(P.length:Nat))=(U.length:Nat):=by rw[wrap_i64 (by omega) (by omega)];omega
 have hwb:IntKind.i64.wrap (((m+V.length:Nat):Int)-(m:Nat))=(V.length:Nat):=by rw[wrap_i64 (by omega) (by omega)];omega
 repeat refine aa rfl ?_
 rw[hwa]
 repeat refine aa rfl ?_
 rw[hwb]
 refine aq (BA P U V S) (fun q=>[(0,.als 5 g 0 N),(2,I m),(4,.clo 203 []),(10,I q.2.1.length),(11,I q.2.2.1.length)])
  (fun q=>[(5,g,⟨199,8,(vS q).map bc,1⟩)]) (fun q=>q.2.1.length+q.2.2.1.length) (P,U,V,S) ⟨hU,hV,rfl,rfl⟩ ⟨rfl,rfl,rfl,rfl,rfl,rfl,trivial⟩ ?_
 rintro⟨A,X,Y,B⟩ s1 hq
 have hql:=yJ hq
 obtain⟨hX,hY,hAm,heq⟩:=hq
 simp only at hX hY hAm heq
 have hX0:0<X.length:=List.length_pos_iff.2 hX
 have hY0:0<Y.length:=List.length_pos_iff.2 hY
 rw[hm]at hAm
 simp only[vS]at hql
 rw[←hN]at hql
 have hql2:N=A.length+X.length+Y.length+B.length:=by rw[←hql];simp;omega
 dsimp only[vS]
 repeat refine aa rfl ?_
 refine ab rfl ?_ ?_<;>intro h
 ·have hne:X.length≠Y.length:=by
   intro e
   simp[e]at h
  clear h
  repeat refine aa rfl ?_
  refine ab rfl ?_ ?_<;>intro h
  ·have hgt:Y.length<X.length:=by have:=of_decide_eq_true h;omega
   clear h
   have hw1:IntKind.i64.wrap (((m:Nat):Int)-(X.length:Nat))=(A.length:Nat):=by rw[wrap_i64 (by omega) (by omega)];omega
   have hw2:IntKind.i64.wrap (((X.length:Nat):Int)-(Y.length:Nat))=((X.drop Y.length).length:Nat):=by rw[wrap_i64 (by omega) (by omega),List.length_drop];omega
   have htl:(X.take Y.length).length=Y.length:=by rw[List.length_take];omega
   have hsp:A++X++Y++B=A++X.take Y.length++X.drop Y.length++Y++B:=by
    rw[List.append_assoc A (X.take _),List.take_append_drop]
   have hmQ:m=A.length+(X.take Y.length).length+(X.drop Y.length).length:=by rw[htl,List.length_drop];omega
   rw[hsp]
   ((repeat ((fail_if_success (with_reducible refine aJ 4 ?_));refine cn rfl ?_));refine aB 7 ?_)
   repeat refine aa rfl ?_
   refine aK rfl (te (N:=N) (Q:=m) A (X.take Y.length) (X.drop Y.length) Y B htl (by rw[←hsp];exact hql.symm) hN1 hmQ rfl (congrArg I hw1) rfl (by rw[htl];rfl) rfl ⟨rfl,trivial⟩ fun s2=>?_)
   refine aD ?_
   repeat refine aa rfl ?_
   refine⟨(A++Y,X.drop Y.length,X.take Y.length,B),⟨?_,?_,?_,?_⟩,?_,rfl,rfl,rfl,congrArg I hw2,by rw[htl];rfl,rfl,trivial⟩
   ·intro e;have:=congrArg List.length e;rw[List.length_drop]at this;simp at this;omega
   ·intro e;have e2:(X.take Y.length).length=0:=by rw[show X.take Y.length=[] from e];rfl
    omega
   ·have hd:(X.drop Y.length).length=X.length-Y.length:=List.length_drop
    show(A++Y).length+(X.drop Y.length).length=P.length+U.length
    rw[List.length_append,hd,hm];omega
   ·simp only
    rw[←heq]
    have e:X.take Y.length++X.drop Y.length=X:=List.take_append_drop _ _
    calc A++Y++X.take Y.length++X.drop Y.length++B=A++Y++(X.take Y.length++X.drop Y.length)++B:=by simp[List.append_assoc]
     _=A++Y++X++B:=by rw[e]
   ·have hd:(X.drop Y.length).length=X.length-Y.length:=List.length_drop
    show(X.drop Y.length).length+(X.take Y.length).length<X.length+Y.length
    omega
  ·have hlt:X.length<Y.length:=by have:=of_decide_eq_false h;omega
   clear h
   obtain⟨w,hw⟩:∃w,w=Y.length-X.length:=⟨_,rfl⟩
   have hw1:IntKind.i64.wrap (((m:Nat):Int)-(X.length:Nat))=(A.length:Nat):=by rw[wrap_i64 (by omega) (by omega)];omega
   have hw3:IntKind.i64.wrap (((m:Nat):Int)+(Y.length:Nat))=((m+Y.length:Nat):Int):=by rw[wrap_i64 (by omega) (by omega)];omega
   have hw4:IntKind.i64.wrap (((m+Y.length:Nat):Int)-(X.length:Nat))=((m+w:Nat):Int):=by rw[wrap_i64 (by omega) (by omega)];omega
   have htl:(Y.take w).length=w:=by rw[List.length_take];omega
   have hdl:(Y.drop w).length=X.length:=by rw[List.length_drop];omega
   have hw2:IntKind.i64.wrap (((Y.length:Nat):Int)-(X.length:Nat))=((Y.take w).length:Nat):=by rw[wrap_i64 (by omega) (by omega),htl];omega
   have hsp:A++X++Y++B=A++X++Y.take w++Y.drop w++B:=by
    rw[List.append_assoc (A++X) (Y.take _),List.take_append_drop]
   rw[hsp]
   ((repeat ((fail_if_success (with_reducible refine aJ 6 ?_));refine cn rfl ?_));refine aB 11 ?_)
   repeat refine aa rfl ?_
   rw[hw3]
   repeat refine aa rfl ?_
   refine aK rfl (te (N:=N) (Q:=m+w) A X (Y.take w) (Y.drop w) B hdl.symm (by rw[←hsp];exact hql.symm) hN1 (by rw[htl];omega) rfl (congrArg I hw1) (congrArg I hw4) rfl rfl ⟨rfl,trivial⟩ fun s2=>?_)
   refine aD ?_
   repeat refine aa rfl ?_
   refine⟨(A,Y.drop w,Y.take w,X++B),⟨?_,?_,?_,?_⟩,?_,rfl,rfl,rfl,by rw[hdl];rfl,congrArg I hw2,?_,trivial⟩
   ·intro e;have e2:(Y.drop w).length=0:=by rw[show Y.drop w=[] from e];rfl
    omega
   ·intro e;have e2:(Y.take w).length=0:=by rw[show Y.take w=[] from e];rfl
    omega
   ·show A.length+(Y.drop w).length=P.length+U.length
    rw[hdl,hm];omega
   ·simp only
    rw[←heq]
    have e:Y.take w++Y.drop w=Y:=List.take_append_drop _ _
    calc A++Y.take w++Y.drop w++(X++B)=A++(Y.take w++Y.drop w)++X++B:=by simp[List.append_assoc]
     _=A++Y++X++B:=by rw[e]
   ·show(Y.drop w).length+(Y.take w).length<X.length+Y.length
    omega
   ·dsimp only[vS]
    rw[show A++Y.drop w++Y.take w++(X++B)=A++Y.drop w++Y.take w++X++B by simp[List.append_assoc]]
    rfl
 ·have he:X.length=Y.length:=by
   have h2:((X.length:Nat):Int)=((Y.length:Nat):Int):=by simpa using h
   omega
  clear h
  have hw1:IntKind.i64.wrap (((m:Nat):Int)-(X.length:Nat))=(A.length:Nat):=by rw[wrap_i64 (by omega) (by omega)];omega
  have hsp:A++X++Y++B=A++X++[]++Y++B:=by simp
  rw[hsp]
  ((repeat ((fail_if_success (with_reducible refine aJ 8 ?_));refine cn rfl ?_));refine aB 7 ?_)
  repeat refine aa rfl ?_
  refine aK rfl (te (N:=N) (Q:=m) A X [] Y B he (by rw[←hsp];exact hql.symm) hN1 (by simp;omega) rfl (congrArg I hw1) rfl rfl rfl ⟨rfl,trivial⟩ fun s2=>?_)
  refine aD ?_
  repeat refine aa rfl ?_
  rw[show A++Y++[]++X++B=P++V++U++S by rw[List.append_nil];exact heq]
  exact cf rfl (hK s2)
section
variable {α:Type} {key:α→Rat}
def cA (key:α→Rat) (c:Rat) (l:List α):List α:=l.filter fun x=>decide (key x=c)
theorem bG (c:Rat) (A B:List α):cA key c (A++B)=cA key c A++cA key c B:=List.filter_append ..
theorem db {c:Rat} {a:α} (l:List α) (h:key a=c):cA key c (a::l)=a::cA key c l:=List.filter_cons_of_pos (by simpa using h)
theorem fh {c:Rat} {a:α} (l:List α) (h:key a≠c):cA key c (a::l)=cA key c l:=List.filter_cons_of_neg (by simpa using h)
theorem dL {c:Rat} {a:α} {l:List α}:a∈cA key c l↔a∈l∧key a=c:=by rw[cA,List.mem_filter,decide_eq_true_eq]
theorem xD:∀ {A B:List α},fe key A→fe key B→(∀c,cA key c A=cA key c B)→A=B
 |[],[],_,_,_=>rfl
 |[],b::B,_,_,h=>by
  have:b∈cA key (key b) ([]:List α):=by rw[h];exact dL.2 ⟨List.mem_cons_self ..,rfl⟩
  cases this
 |a::A,[],_,_,h=>by
  have:a∈cA key (key a) ([]:List α):=by rw[←h];exact dL.2 ⟨List.mem_cons_self ..,rfl⟩
  cases this
 |a::A,b::B,hA,hB,h=>by
  obtain⟨a1,a2⟩:=List.pairwise_cons.1 hA
  obtain⟨b1,b2⟩:=List.pairwise_cons.1 hB
  have ha:a∈b::B:=(dL.1 (by rw[←h];exact dL.2 ⟨List.mem_cons_self ..,rfl⟩:a∈cA key (key a) (b::B))).1
  have hb:b∈a::A:=(dL.1 (by rw[h];exact dL.2 ⟨List.mem_cons_self ..,rfl⟩:b∈cA key (key b) (a::A))).1
  have k1:key b≤key a:=by
   rcases List.mem_cons.1 ha with e|e
   ·rw[e];exact Rat.le_refl
   ·exact b1 a e
  have k2:key a≤key b:=by
   rcases List.mem_cons.1 hb with e|e
   ·rw[e];exact Rat.le_refl
   ·exact a1 b e
  have hk:key b=key a:=Rat.le_antisymm k1 k2
  have h0:=h (key a)
  rw[db _ rfl,db _ hk]at h0
  have hab:a=b:=(List.cons.inj h0).1
  subst hab
  congr 1
  refine xD a2 b2 fun c=>?_
  have hc:=h c
  by_cases e:key a=c
  ·rw[db _ e,db _ e]at hc
   exact(List.cons.inj hc).2
  ·rwa [fh _ e,fh _ e]at hc
def CZ (key:α→Rat) (A B:List α):Prop:=∀x∈A,∀y∈B,key x<key y
theorem Ao {A B:List α} (h:CZ key A B) (c:Rat):cA key c A=[]∨cA key c B=[]:=by
 rcases Classical.em (cA key c A=[]) with e|e
 ·exact .inl e
 ·refine .inr (List.eq_nil_iff_forall_not_mem.2 fun y hy=>?_)
  obtain⟨x,hx⟩:=List.exists_mem_of_ne_nil _ e
  obtain⟨hx1,hx2⟩:=dL.1 hx
  obtain⟨hy1,hy2⟩:=dL.1 hy
  have:=h x hx1 y hy1
  rw[hx2,hy2]at this
  exact absurd this (Rat.lt_irrefl)
theorem me {A B:List α} (h:CZ key A B) (c:Rat):cA key c (A++B)=cA key c (B++A):=by
 rw[bG,bG]
 rcases Ao h c with e|e<;>rw[e]<;>simp
theorem sd {U V W1 W2:List α} {s t:Nat} (c2:CZ key (V.take t) (U.drop s)) (p1:∀c,cA key c W1=cA key c (U.take s++V.take t)) (p2:∀c,cA key c W2=cA key c (U.drop s++V.drop t)) (c:Rat):cA key c (W1++W2)=cA key c (U++V):=by
 have h:=me c2 c
 rw[bG,bG]at h
 have eU:cA key c U=cA key c (U.take s)++cA key c (U.drop s):=by rw[←bG,List.take_append_drop]
 have eV:cA key c V=cA key c (V.take t)++cA key c (V.drop t):=by rw[←bG,List.take_append_drop]
 rw[bG,p1,p2,bG,bG,bG,eU,eV,List.append_assoc,←List.append_assoc (cA key c (V.take t)),h]
 simp only[List.append_assoc]
end
variable {α:Type} {key:α→Rat}
theorem xE {c:Rat} {l:List α} (h:∀x∈l,key x≠c):cA key c l=[]:=List.eq_nil_iff_forall_not_mem.2 fun x hx=>h x (dL.1 hx).1 (dL.1 hx).2
theorem xV (l:List α) (x:α) (c:Rat):cA key c (iU key l x)=cA key c (l++[x]):=by
 obtain⟨h1,h2⟩:=kz key l x l.length (Nat.le_refl _)
 rw[iU,bH,qZ]
 generalize lp key l x l.length=k at *
 have e:cA key c l=cA key c (l.take k)++cA key c (l.drop k):=by rw[←bG,List.take_append_drop]
 rw[bG,bG,e]
 by_cases hx:key x=c
 ·have hd:cA key c (l.drop k)=[]:=xE fun y hy hyc=>by
   obtain⟨q,hq⟩:=List.mem_iff_getElem?.1 hy
   rw[List.getElem?_drop]at hq
   have:=h2 (k+q) y (by omega) (List.getElem?_eq_some_iff.1 hq).1 hq
   rw[hx,hyc]at this
   exact absurd this Rat.lt_irrefl
  rw[db _ hx,hd,db _ hx]
  simp[cA]
 ·rw[fh _ hx,fh _ hx]
  simp[cA]
theorem kH (l:List α) (c:Rat):cA key c (aF key l)=cA key c l:=by
 have:∀(l acc:List α),cA key c (l.foldl (iU key) acc)=cA key c (acc++l):=by
  intro l
  induction l with
  |nil=>intro acc;rw[List.append_nil];rfl
  |cons x l ih =>
   intro acc
   rw[List.foldl_cons,ih,bG,xV,bG,bG,show x::l=[x]++l from rfl,bG]
   simp only[List.append_assoc]
 have h:=this l []
 rwa [List.nil_append]at h
theorem wu {W l:List α} (hs:fe key W) (hf:∀c,cA key c W=cA key c l):W=aF key l :=
 xD hs (eg key l) fun c=>by rw[hf,kH]
end Go.Pv
set_option maxHeartbeats 2000000
namespace Go.Pv
attribute [local irreducible] PWP POps PQuiet PSem ar ao ai ah
open Go.Proofs
theorem DV {P U V S:List BN} {i:Nat} {u:BN} (h:U[i]? = some u):((P++U++V++S).map bc)[P.length+i]? = some (bc u):=by
 have hi:=(List.getElem?_eq_some_iff.1 h).1
 rw[List.getElem?_map,List.append_assoc,List.append_assoc,List.getElem?_append_right (by omega),show P.length+i-P.length=i by omega,List.getElem?_append_left (by omega),h];rfl
theorem DW {P U V S:List BN} {i:Nat} {v:BN} (h:V[i]? = some v):((P++U++V++S).map bc)[P.length+U.length+i]? = some (bc v):=by
 have hi:=(List.getElem?_eq_some_iff.1 h).1
 rw[List.getElem?_map,List.append_assoc,List.getElem?_append_right (by rw[List.length_append];omega),show P.length+U.length+i-(P++U).length=i by rw[List.length_append];omega,List.getElem?_append_left (by omega),h];rfl
theorem tK (X Y:Nat) (h:X+Y≤4000):IntKind.i64.wrap (IntKind.u64.wrap (IntKind.i64.wrap (((X:Nat):Int)+((Y:Nat):Int)))/2^Int.toNat 1)=(((X+Y)/2:Nat):Int):=by
 rw[wrap_i64 (n:=((X:Nat):Int)+((Y:Nat):Int)) (by omega) (by omega),wrap_u64 (by omega) (by omega),show((2:Int)^Int.toNat 1)=2 by decide,wrap_i64 (by omega) (by omega)]
 omega
theorem yj {V:List BN} {u:BN} {t:Nat} (h:∀y∈V.take t,aO y<aO u) (c:Rat):cA aO c (V.take t++u::V.drop t)=cA aO c ([u]++V):=by
 have e:V.take t++u::V.drop t=(V.take t++[u])++V.drop t:=by simp
 rw[e,bG,me (fun x hx y hy=>by rw[List.mem_singleton.1 hy];exact h x hx),←bG,List.append_assoc,List.take_append_drop]
theorem yk {U:List BN} {v:BN} {t:Nat} (h:∀y∈U.drop t,aO v<aO y) (c:Rat):cA aO c (U.take t++v::U.drop t)=cA aO c (U++[v]):=by
 have e:U.take t++v::U.drop t=U.take t++([v]++U.drop t):=by simp
 rw[e,bG,me (fun x hx y hy=>by rw[List.mem_singleton.1 hx];exact h y hy),←bG,←List.append_assoc,List.take_append_drop]
def ef (P V:List BN) (u:BN) (S:List BN) (r:Nat):List BN:=P++(V.take r++u::V.drop r)++S
theorem lH {P V S:List BN} {u v:BN} {r:Nat} (h:V[r]? = some v):ef P V u S r=(P++V.take r)++u::([]++v::(V.drop (r+1)++S)):=by
 rw[ef,ez h];simp[List.append_assoc]
theorem ij {P V S:List BN} {u v:BN} {r:Nat} (h:V[r]? = some v):ef P V u S (r+1)=(P++V.take r)++v::([]++u::(V.drop (r+1)++S)):=by
 rw[ef,f9 h];simp[List.append_assoc]
theorem ri {P V S:List BN} {u v:BN} {r:Nat} (h:V[r]? = some v):((ef P V u S r).map bc)[P.length+r]? = some (bc u):=by
 have hr:=(List.getElem?_eq_some_iff.1 h).1
 have e:=pg (P++V.take r) [] (V.drop (r+1)++S) u v
 rw[show(P++V.take r).length=P.length+r by simp;omega,←lH h]at e
 rw[List.getElem?_map,e];rfl
theorem rj {P V S:List BN} {u v:BN} {r:Nat} (h:V[r]? = some v):((ef P V u S r).map bc)[P.length+r+1]? = some (bc v):=by
 have hr:=(List.getElem?_eq_some_iff.1 h).1
 have e:=ph (P++V.take r) [] (V.drop (r+1)++S) u v
 rw[show(P++V.take r).length=P.length+r by simp;omega,←lH h]at e
 rw[List.getElem?_map,show P.length+r+1=P.length+r+1+([]:List BN).length from rfl,e];rfl
theorem yL {P V S:List BN} {u v:BN} {r:Nat} (h:V[r]? = some v):((ef P V u S r).set (P.length+r) v).set (P.length+r+1) u=ef P V u S (r+1):=by
 have hr:=(List.getElem?_eq_some_iff.1 h).1
 have e:=pI (P++V.take r) [] (V.drop (r+1)++S) u v
 rw[show(P++V.take r).length=P.length+r by simp;omega,←lH h,←ij h]at e
 exact e
theorem sK {P V S:List BN} {u v:BN} {r:Nat} (h:V[r]? = some v):((ef P V u S (r+1)).set (P.length+r+1) v).set (P.length+r) u=ef P V u S r:=by
 have hr:=(List.getElem?_eq_some_iff.1 h).1
 have e:=pI (P++V.take r) [] (V.drop (r+1)++S) v u
 rw[show(P++V.take r).length=P.length+r by simp;omega,←lH h,←ij h]at e
 rw[List.set_comm _ _ (by omega)]
 exact e
theorem od {P V S:List BN} {u v:BN} {r:Nat} (h:V[r]? = some v):((ef P V u S (r+1)).map bc)[P.length+r]? = some (bc v):=by
 have hr:=(List.getElem?_eq_some_iff.1 h).1
 have e:=pg (P++V.take r) [] (V.drop (r+1)++S) v u
 rw[show(P++V.take r).length=P.length+r by simp;omega,←ij h]at e
 rw[List.getElem?_map,e];rfl
theorem oe {P V S:List BN} {u v:BN} {r:Nat} (h:V[r]? = some v):((ef P V u S (r+1)).map bc)[P.length+r+1]? = some (bc u):=by
 have hr:=(List.getElem?_eq_some_iff.1 h).1
 have e:=ph (P++V.take r) [] (V.drop (r+1)++S) v u
 rw[show(P++V.take r).length=P.length+r by simp;omega,←ij h]at e
 rw[List.getElem?_map,show P.length+r+1=P.length+r+1+([]:List BN).length from rfl,e];rfl
theorem qt {L:Lay} {fn:Func} {K:St→PV→Prop} {s:St} (h:fn.results.toList=[]) (hk:K s (.tup [])):ah L fn K .ret s:=by
 unfold ah
 exact⟨[],True,by rw[h];rfl,trivial,hk⟩
set_option maxRecDepth 20000 in
theorem Bi {K:St→Prop} {s:St} {d g N:Nat} {x y z n c:Operand} {tys:Array TypeId} {ty:TypeId} {pos:String} {af:Array Edge} (P:List BN) (u:BN) (V S:List BN) (hV:fe aO V) (hs:∀p∈u::V,p.at'.sz 7000000) (hN:N=(P++[u]++V++S).length) (hN1:N≤1000)
  (hx:s.ev x = .als 5 g 0 N) (hy:s.ev y=I P.length) (hz:s.ev z=I (P.length+1:Nat)) (hn:s.ev n=I (P.length+1+V.length:Nat)) (hc:s.ev c = .clo 203 [])
  (ho:FitO s [(5,g,⟨199,8,(P++[u]++V++S).map bc,1⟩)])
  (hK:∀(s1:St) (W:List BN),W.Perm ([u]++V)→(∀c,cA aO c W=cA aO c ([u]++V))→fe aO W→K (({ reg:=s.reg,own:=(s1.over [] [(5,g,⟨199,8,(P++W++S).map bc,1⟩)]).own }:St).putR d (.tup []))) :
  Sm Tryz.prog lay.get s ⟨some d,.call ⟨.value (.func 233),#[x,y,z,n,c],tys⟩,ty,pos,af,none⟩ K:=by
 have hlen:N=P.length+1+V.length+S.length:=by rw[hN];simp;omega
 generalize hm:P.length+1=m at *
 refine bE layOk rfl rfl Tryz.func233 rfl (by decide) rfl rfl ?_
 show PWP _ _ _ _ (aQ s (([x,y,z,n,c]:List Operand).map s.ev++[]))
 rw[show(([x,y,z,n,c]:List Operand).map s.ev++([]:List PV))=[.als 5 g 0 N,I P.length,I m,I (m+V.length:Nat),.clo 203 []] by simp[hx,hy,hz,hn,hc]]
 rw[show aQ s [.als 5 g 0 N,I P.length,I m,I (m+V.length:Nat),.clo 203 []]=aQ (s.over [] [(5,g,⟨199,8,(P++[u]++V++S).map bc,1⟩)]) [.als 5 g 0 N,I P.length,I m,I (m+V.length:Nat),.clo 203 []] by rw[Fit.over (l:=[]) ho]]
 have hwa:IntKind.i64.wrap (((m:Nat):Int)-(P.length:Nat))=1:=by rw[wrap_i64 (by omega) (by omega)];omega
 repeat refine aa rfl ?_
 rw[hwa]
 repeat refine aa rfl ?_
 refine aq (fun q:Nat × Nat=>q.1≤q.2∧q.2≤V.length∧(∀v∈V.take q.1,aO v<aO u)∧(∀v∈V.drop q.2,aO u≤aO v)) (fun q=>[(0,.als 5 g 0 N),(1,I P.length),(4,.clo 203 []),(10,I (m+q.1:Nat)),(11,I (m+q.2:Nat))])
  (fun q=>[(5,g,⟨199,8,(P++[u]++V++S).map bc,1⟩)]) (fun q=>q.2-q.1) (0,V.length) ⟨Nat.zero_le _,Nat.le_refl _,by simp,by simp⟩ ⟨rfl,rfl,rfl,rfl,rfl,rfl,trivial⟩ ?_
 rintro⟨p,q⟩ s1 ⟨hpq,hqV,h1,h2⟩
 simp only at hpq hqV h1 h2
 dsimp only
 repeat refine aa rfl ?_
 refine ab rfl ?_ ?_<;>intro h
 ·have hlt:p<q:=by have:=of_decide_eq_true h;omega
  clear h
  obtain⟨f,hf⟩:∃f,f=(p+q)/2:=⟨_,rfl⟩
  obtain⟨v,hv⟩:=aI (show f<V.length by omega)
  have hmid:IntKind.i64.wrap (IntKind.u64.wrap (IntKind.i64.wrap (((m+p:Nat):Int)+((m+q:Nat):Int)))/2^Int.toNat 1)=((m+f:Nat):Int):=by
   rw[tK _ _ (by omega)];omega
  have hr1:((P++[u]++V++S).map bc)[m+f]? = some (bc v):=by rw[←hm];exact DW (U:=[u]) hv
  have hr2:((P++[u]++V++S).map bc)[P.length]? = some (bc u):=DV (U:=[u]) (i:=0) rfl
  have hw:IntKind.i64.wrap (((m+f:Nat):Int)+1)=((m+(f+1):Nat):Int):=by rw[wrap_i64 (by omega) (by omega)];omega
  repeat refine aa rfl ?_
  rw[hmid]
  refine ak 11 [40,41,42,43,44,45,46,47,48,49,50] (by decide +kernel) ?_
  repeat refine aa rfl ?_
  refine ic rfl rfl rfl rfl rfl rfl rfl rfl rfl ?_
  rw[Int.toNat_natCast,Nat.zero_add (m+f)]
  refine br rfl rfl (bJ rfl rfl rfl hr1 rfl) ?_
  repeat refine aa rfl ?_
  refine ic rfl rfl rfl rfl rfl rfl rfl rfl rfl ?_
  rw[Int.toNat_natCast,Nat.zero_add P.length]
  refine br rfl rfl (bJ rfl rfl rfl hr2 rfl) ?_
  repeat refine aa rfl ?_
  refine br rfl rfl (lE rfl (gy (hs v (List.mem_cons_of_mem _ (List.mem_of_getElem? hv))) (hs u (List.mem_cons_self ..))) rfl (by repeat' constructor) rfl rfl) ?_
  repeat refine aa rfl ?_
  refine ab rfl ?_ ?_<;>intro h
  ·have hb:=h
   have hlt2:aO v<aO u:=by have:=(ca _).1 (of_decide_eq_true hb);grind
   clear hb h
   repeat refine aa rfl ?_
   refine⟨(f+1,q),⟨by simp only;omega,hqV,fun y hy=>?_,h2⟩,by simp only;omega,rfl,rfl,rfl,congrArg I hw,rfl,rfl,trivial⟩
   have:=j0 hV hv y hy
   grind
  ·have hb:=h
   have hge2:aO u≤aO v:=by
    have h9:=of_decide_eq_false hb
    rw[ca]at h9
    grind
   clear hb h
   repeat refine aa rfl ?_
   refine⟨(p,f),⟨by simp only;omega,by simp only;omega,h1,fun y hy=>?_⟩,by simp only;omega,rfl,rfl,rfl,rfl,rfl,rfl,trivial⟩
   have:=jZ hV hv y hy
   grind
 ·have he:p=q:=by have:=of_decide_eq_false h;omega
  clear h
  subst he
  have hwp:IntKind.i64.wrap (((m+p:Nat):Int)-1)=((P.length+p:Nat):Int):=by rw[wrap_i64 (by omega) (by omega)];omega
  have hr0:P++[u]++V++S=ef P V u S 0:=by rw[ef];simp
  repeat refine aa rfl ?_
  refine aq (fun r=>r≤p) (fun r=>[(0,.als 5 g 0 N),(10,I (m+p:Nat)),(13,I (P.length+r:Nat))]) (fun r=>[(5,g,⟨199,8,(ef P V u S r).map bc,1⟩)]) (fun r=>p-r) 0 (Nat.zero_le _) ⟨rfl,rfl,rfl,by rw[←hr0];rfl,trivial⟩ ?_
  intro r s2 hr
  repeat refine aa rfl ?_
  rw[hwp]
  refine ab rfl ?_ ?_<;>intro h
  ·have hrp:r<p:=by have:=of_decide_eq_true h;omega
   clear h
   obtain⟨v,hv⟩:=aI (show r<V.length by omega)
   have hw:IntKind.i64.wrap (((P.length+r:Nat):Int)+1)=((P.length+r+1:Nat):Int):=by rw[wrap_i64 (by omega) (by omega)];omega
   repeat refine aa rfl ?_
   refine aM 15 0 [61,62,63,64,65,66,67,68,69,70,71,72,73,74,75] [2,3,4] (by decide +kernel) rfl ?_
   repeat refine aa rfl ?_
   rw[hw]
   refine ic rfl rfl rfl rfl rfl rfl rfl rfl rfl ?_
   rw[Int.toNat_natCast,Nat.zero_add (P.length+r+1)]
   refine br rfl rfl (bJ rfl rfl rfl (rj hv) rfl) ?_
   repeat refine aa rfl ?_
   refine ic rfl rfl rfl rfl rfl rfl rfl rfl rfl ?_
   rw[Int.toNat_natCast,Nat.zero_add (P.length+r)]
   refine br rfl rfl (bJ rfl rfl rfl (ri hv) rfl) ?_
   repeat refine aa rfl ?_
   refine ic rfl rfl rfl rfl rfl rfl rfl rfl rfl ?_
   rw[Int.toNat_natCast,Nat.zero_add (P.length+r)]
   repeat refine aa rfl ?_
   refine bp (bk (kd':=1) rfl rfl rfl (ri hv) rfl rfl (by repeat' constructor) rfl rfl rfl rfl ?_)
   refine ic rfl rfl rfl rfl rfl rfl rfl rfl rfl ?_
   rw[Int.toNat_natCast,Nat.zero_add (P.length+r+1)]
   refine bp (bk (kd':=1) rfl rfl rfl (row:=bc v) (by
    show(((ef P V u S r).map bc).set (P.length+r) _)[P.length+r+1]? = _
    rw[List.getElem?_set_ne (by omega)];exact rj hv) rfl rfl (by repeat' constructor) rfl rfl rfl rfl ?_)
   repeat refine aa rfl ?_
   refine⟨r+1,hrp,by omega,rfl,rfl,congrArg I hw,?_,trivial⟩
   refine Eq.trans (b:=(g,some (Cont.mk 199 8 ((((ef P V u S r).map bc).set (P.length+r) (bc v)).set (P.length+r+1) (bc u)) 1))) rfl ?_
   rw[←List.map_set,←List.map_set,yL hv]
  ·have hrp:r=p:=by have:=of_decide_eq_false h;omega
   clear h
   subst hrp
   have hm2:=nS hV (fun y hy=>Rat.le_of_lt (h1 y hy)) h2
   have hp2:=qT V u r
   rw[ef]
   repeat refine aa rfl ?_
   exact qt rfl (hK s2 _ hp2 (yj h1) hm2)
set_option maxRecDepth 20000 in
theorem Bj {K:St→Prop} {s:St} {d g N:Nat} {x y z n c:Operand} {tys:Array TypeId} {ty:TypeId} {pos:String} {af:Array Edge} (P U:List BN) (v:BN) (S:List BN) (hU1:U.length≠1) (hU:fe aO U) (hs:∀p∈v::U,p.at'.sz 7000000) (hN:N=(P++U++[v]++S).length) (hN1:N≤1000)
  (hx:s.ev x = .als 5 g 0 N) (hy:s.ev y=I P.length) (hz:s.ev z=I (P.length+U.length:Nat)) (hn:s.ev n=I (P.length+U.length+1:Nat)) (hc:s.ev c = .clo 203 [])
  (ho:FitO s [(5,g,⟨199,8,(P++U++[v]++S).map bc,1⟩)])
  (hK:∀(s1:St) (W:List BN),W.Perm (U++[v])→(∀c,cA aO c W=cA aO c (U++[v]))→fe aO W→K (({ reg:=s.reg,own:=(s1.over [] [(5,g,⟨199,8,(P++W++S).map bc,1⟩)]).own }:St).putR d (.tup []))) :
  Sm Tryz.prog lay.get s ⟨some d,.call ⟨.value (.func 233),#[x,y,z,n,c],tys⟩,ty,pos,af,none⟩ K:=by
 have hlen:N=P.length+U.length+1+S.length:=by rw[hN];simp;omega
 obtain⟨m,hm⟩:∃m,m=P.length+U.length:=⟨_,rfl⟩
 rw[←hm]at hz hn hlen
 refine bE layOk rfl rfl Tryz.func233 rfl (by decide) rfl rfl ?_
 show PWP _ _ _ _ (aQ s (([x,y,z,n,c]:List Operand).map s.ev++[]))
 rw[show(([x,y,z,n,c]:List Operand).map s.ev++([]:List PV))=[.als 5 g 0 N,I P.length,I m,I (m+1:Nat),.clo 203 []] by simp[hx,hy,hz,hn,hc]]
 rw[show aQ s [.als 5 g 0 N,I P.length,I m,I (m+1:Nat),.clo 203 []]=aQ (s.over [] [(5,g,⟨199,8,(P++U++[v]++S).map bc,1⟩)]) [.als 5 g 0 N,I P.length,I m,I (m+1:Nat),.clo 203 []] by rw[Fit.over (l:=[]) ho]]
 have hwa:IntKind.i64.wrap (((m:Nat):Int)-(P.length:Nat))=(U.length:Nat):=by rw[wrap_i64 (by omega) (by omega)];omega
 have hwb:IntKind.i64.wrap (((m+1:Nat):Int)-(m:Nat))=1:=by rw[wrap_i64 (by omega) (by omega)];omega
 repeat refine aa rfl ?_
 rw[hwa]
 refine ab rfl ?_ ?_<;>intro h
 ·have:=of_decide_eq_true h
  omega
 clear h
 repeat refine aa rfl ?_
 rw[hwb]
 repeat refine aa rfl ?_
 refine aq (fun q:Nat × Nat=>q.1≤q.2∧q.2≤U.length∧(∀y∈U.take q.1,aO y≤aO v)∧(∀y∈U.drop q.2,aO v<aO y)) (fun q=>[(0,.als 5 g 0 N),(2,I m),(4,.clo 203 []),(14,I (P.length+q.1:Nat)),(15,I (P.length+q.2:Nat))])
  (fun q=>[(5,g,⟨199,8,(P++U++[v]++S).map bc,1⟩)]) (fun q=>q.2-q.1) (0,U.length) ⟨Nat.zero_le _,Nat.le_refl _,by simp,by simp⟩ ⟨rfl,rfl,rfl,rfl,by rw[hm];rfl,rfl,trivial⟩ ?_
 rintro⟨p,q⟩ s1 ⟨hpq,hqV,h1,h2⟩
 simp only at hpq hqV h1 h2
 dsimp only
 repeat refine aa rfl ?_
 refine ab rfl ?_ ?_<;>intro h
 ·have hlt:p<q:=by have:=of_decide_eq_true h;omega
  clear h
  obtain⟨f,hf⟩:∃f,f=(p+q)/2:=⟨_,rfl⟩
  obtain⟨u,hu⟩:=aI (show f<U.length by omega)
  have hmid:IntKind.i64.wrap (IntKind.u64.wrap (IntKind.i64.wrap (((P.length+p:Nat):Int)+((P.length+q:Nat):Int)))/2^Int.toNat 1)=((P.length+f:Nat):Int):=by
   rw[tK _ _ (by omega)];omega
  have hr1:((P++U++[v]++S).map bc)[P.length+f]? = some (bc u):=DV hu
  have hr2:((P++U++[v]++S).map bc)[m]? = some (bc v):=by rw[hm];exact DW (V:=[v]) (i:=0) rfl
  have hw:IntKind.i64.wrap (((P.length+f:Nat):Int)+1)=((P.length+(f+1):Nat):Int):=by rw[wrap_i64 (by omega) (by omega)];omega
  repeat refine aa rfl ?_
  rw[hmid]
  refine ak 12 [92,93,94,95,96,97,98,99,100,101,102,103] (by decide +kernel) ?_
  repeat refine aa rfl ?_
  refine ic rfl rfl rfl rfl rfl rfl rfl rfl rfl ?_
  rw[Int.toNat_natCast,Nat.zero_add m]
  refine br rfl rfl (bJ rfl rfl rfl hr2 rfl) ?_
  repeat refine aa rfl ?_
  refine ic rfl rfl rfl rfl rfl rfl rfl rfl rfl ?_
  rw[Int.toNat_natCast,Nat.zero_add (P.length+f)]
  refine br rfl rfl (bJ rfl rfl rfl hr1 rfl) ?_
  repeat refine aa rfl ?_
  refine br rfl rfl (lE rfl (gy (hs v (List.mem_cons_self ..)) (hs u (List.mem_cons_of_mem _ (List.mem_of_getElem? hu)))) rfl (by repeat' constructor) rfl rfl) ?_
  repeat refine aa rfl ?_
  refine ab rfl ?_ ?_<;>intro h
  ·have hge2:aO u≤aO v:=by
    have h9:¬sgn (aO v-aO u)<0:=by simpa using h
    rw[ca]at h9
    grind
   clear h
   repeat refine aa rfl ?_
   refine⟨(f+1,q),⟨by simp only;omega,hqV,fun y hy=>?_,h2⟩,by simp only;omega,rfl,rfl,rfl,congrArg I hw,rfl,rfl,trivial⟩
   have:=j0 hU hu y hy
   grind
  ·have hlt2:aO v<aO u:=by
    have h9:sgn (aO v-aO u)<0:=by simpa using h
    have:=(ca _).1 h9
    grind
   clear h
   repeat refine aa rfl ?_
   refine⟨(p,f),⟨by simp only;omega,by simp only;omega,h1,fun y hy=>?_⟩,by simp only;omega,rfl,rfl,rfl,rfl,rfl,rfl,trivial⟩
   have:=jZ hU hu y hy
   grind
 ·have he:p=q:=by have:=of_decide_eq_false h;omega
  clear h
  subst he
  have hr0:P++U++[v]++S=ef P U v S U.length:=by rw[ef,List.take_length,List.drop_length];simp
  repeat refine aa rfl ?_
  refine aq (fun r=>p≤r∧r≤U.length) (fun r=>[(0,.als 5 g 0 N),(14,I (P.length+p:Nat)),(17,I (P.length+r:Nat))]) (fun r=>[(5,g,⟨199,8,(ef P U v S r).map bc,1⟩)]) (fun r=>r) U.length ⟨hqV,Nat.le_refl _⟩ ⟨rfl,rfl,by rw[←hm];rfl,by rw[←hr0];rfl,trivial⟩ ?_
  intro r' s2 ⟨hr,hrU⟩
  repeat refine aa rfl ?_
  refine ab rfl ?_ ?_<;>intro h
  ·have hrp:p<r':=by have:=of_decide_eq_true h;omega
   clear h
   obtain⟨r,rfl⟩:∃r,r'=r+1:=⟨r'-1,by omega⟩
   obtain⟨u,hu⟩:=aI (show r<U.length by omega)
   have hw:IntKind.i64.wrap (((P.length+(r+1):Nat):Int)-1)=((P.length+r:Nat):Int):=by rw[wrap_i64 (by omega) (by omega)];omega
   repeat refine aa rfl ?_
   refine aM 15 0 [113,114,115,116,117,118,119,120,121,122,123,124,125,126,127] [2,3,4] (by decide +kernel) rfl ?_
   repeat refine aa rfl ?_
   rw[hw]
   refine ic rfl rfl rfl rfl rfl rfl rfl rfl rfl ?_
   rw[Int.toNat_natCast,Nat.zero_add (P.length+r)]
   refine br rfl rfl (bJ rfl rfl rfl (od hu) rfl) ?_
   repeat refine aa rfl ?_
   refine ic rfl rfl rfl rfl rfl rfl rfl rfl rfl ?_
   rw[Int.toNat_natCast,Nat.zero_add (P.length+(r+1))]
   refine br rfl rfl (bJ rfl rfl rfl (oe hu) rfl) ?_
   repeat refine aa rfl ?_
   refine ic rfl rfl rfl rfl rfl rfl rfl rfl rfl ?_
   rw[Int.toNat_natCast,Nat.zero_add (P.length+(r+1))]
   repeat refine aa rfl ?_
   refine bp (bk (kd':=1) rfl rfl rfl (oe hu) rfl rfl (by repeat' constructor) rfl rfl rfl rfl ?_)
   refine ic rfl rfl rfl rfl rfl rfl rfl rfl rfl ?_
   rw[Int.toNat_natCast,Nat.zero_add (P.length+r)]
   refine bp (bk (kd':=1) rfl rfl rfl (row:=bc u) (by
    show(((ef P U v S (r+1)).map bc).set (P.length+(r+1)) _)[P.length+r]? = _
    rw[List.getElem?_set_ne (by omega)];exact od hu) rfl rfl (by repeat' constructor) rfl rfl rfl rfl ?_)
   repeat refine aa rfl ?_
   refine⟨r,⟨by omega,by omega⟩,by omega,rfl,rfl,congrArg I hw,?_,trivial⟩
   refine Eq.trans (b:=(g,some (Cont.mk 199 8 ((((ef P U v S (r+1)).map bc).set (P.length+r+1) (bc u)).set (P.length+r) (bc v)) 1))) rfl ?_
   rw[←List.map_set,←List.map_set,sK hu]
  ·have hrp:r'=p:=by have:=of_decide_eq_false h;omega
   clear h
   subst hrp
   have hm2:=nS hU h1 (fun y hy=>Rat.le_of_lt (h2 y hy))
   have hp2:=(qT U v r').trans (List.perm_append_comm (l₁:=[v]) (l₂:=U))
   rw[ef]
   repeat refine aa rfl ?_
   exact qt rfl (hK s2 _ hp2 (yk h2) hm2)
theorem q_ {P:Program} {L:Lay} {Q:Exit→St→Prop} {s:St} {ι:Type} {x y:Code} (X:ι→Prop) (regs:ι→List (Nat × PV)) (owns:ι→List (Nat × Nat × Cont)) (h1:PWP P L x (ar (fun s'=>∃i,X i∧Fit s' (regs i) (owns i)) Q) s) (h2:∀i,X i→∀s:St,PWP P L y Q (s.over (regs i) (owns i))):PWP P L x (ar (fun s'=>PWP P L y Q s') Q) s:=by
 refine PWP.mono ?_ _ h1
 intro e s' h
 unfold ar at h ⊢
 cases e
 case normal =>
  obtain⟨i,hX,hF⟩:∃i,X i∧Fit s' (regs i) (owns i):=h
  have:=h2 i hX s'
  rwa [Fit.over hF]at this
 all_goals exact h
theorem Bv {F:St→Prop} {Q:Exit→St→Prop} {s:St}:ar F Q .normal s=F s:=by unfold ar;rfl
theorem j8 {F:St→Prop} {Q:Exit→St→Prop} {e:Exit} {s:St} (h:e ≠ .normal):ar F Q e s=Q e s:=by
 unfold ar
 cases e<;>first|rfl|exact absurd rfl h
theorem tW {P:Program} {L:Lay} {Q:Exit→St→Prop} {s:St} {ι:Type} {x1 x2 y:Code} (X:ι→Prop) (regs:ι→List (Nat × PV)) (owns:ι→List (Nat × Nat × Cont)) (h1:PWP P L x1 (ar (fun s'=>PWP P L x2 (ar (fun s'=>∃i,X i∧Fit s' (regs i) (owns i)) Q) s') (ar (fun s'=>∃i,X i∧Fit s' (regs i) (owns i)) Q)) s) (h2:∀i,X i→∀s:St,PWP P L y Q (s.over (regs i) (owns i))):PWP P L x1 (ar (fun s'=>PWP P L x2 (ar (fun s'=>PWP P L y Q s') Q) s') (ar (fun s'=>PWP P L y Q s') Q)) s:=by
 refine PWP.mono (fun e s' h=>?_) _ h1
 by_cases he:e = .normal
 ·subst he
  rw[Bv]at h ⊢
  exact q_ X regs owns h h2
 ·rw[j8 he,j8 he]at h
  rw[j8 he,j8 he]
  exact h
def DQ (U V:List BN) (a m n lo c:Nat):Prop:=c=lo∨∃s' u v,c=a+s'+1∧U[s']? = some u∧V[n-c-m]? = some v∧aO u≤aO v
def DR (U V:List BN) (a m n hi c:Nat):Prop:=c=hi∨∃t' v u,n=c+m+t'+1∧V[t']? = some v∧U[c-a]? = some u∧aO v<aO u
theorem zX {U V:List BN} (hU:fe aO U) (hV:fe aO V) {s t:Nat} (h:s=0∨t=V.length∨∃s' u v,s=s'+1∧U[s']? = some u∧V[t]? = some v∧aO u<aO v):CZ aO (U.take s) (V.drop t):=by
 intro x hx y hy
 rcases h with rfl|rfl|⟨s',u,v,rfl,hu,hv,huv⟩
 ·simp at hx
 ·simp at hy
 ·have h1:=j0 hU hu x hx
  have h2:=jZ hV hv y hy
  grind
set_option maxRecDepth 20000 in
theorem Bk {w:Nat} (ih:∀ {K:St→Prop} {s:St} {d g N:Nat} {x y z n c:Operand} {tys:Array TypeId} {ty:TypeId} {pos:String} {af:Array Edge} (P U V S:List BN),U.length+V.length≤w→U≠[]→V≠[]→fe aO U→fe aO V→(∀p∈U++V,p.at'.sz 7000000)→N=(P++U++V++S).length→N≤1000 →
  s.ev x = .als 5 g 0 N→s.ev y=I P.length→s.ev z=I (P.length+U.length:Nat)→s.ev n=I (P.length+U.length+V.length:Nat)→s.ev c = .clo 203 []→FitO s [(5,g,⟨199,8,(P++U++V++S).map bc,1⟩)] →
  (∀(s1:St) (W:List BN),W.Perm (U++V)→(∀c,cA aO c W=cA aO c (U++V))→fe aO W→K (({ reg:=s.reg,own:=(s1.over [] [(5,g,⟨199,8,(P++W++S).map bc,1⟩)]).own }:St).putR d (.tup []))) →
  Sm Tryz.prog lay.get s ⟨some d,.call ⟨.value (.func 233),#[x,y,z,n,c],tys⟩,ty,pos,af,none⟩ K)
  {K:St→Prop} {s:St} {d g N:Nat} {x y z n c:Operand} {tys:Array TypeId} {ty:TypeId} {pos:String} {af:Array Edge} (P U V S:List BN) (hw:U.length+V.length≤w+1) (hU2:2≤U.length) (hV2:2≤V.length) (hU:fe aO U) (hV:fe aO V) (hs:∀p∈U++V,p.at'.sz 7000000) (hN:N=(P++U++V++S).length) (hN1:N≤1000)
  (hx:s.ev x = .als 5 g 0 N) (hy:s.ev y=I P.length) (hz:s.ev z=I (P.length+U.length:Nat)) (hn:s.ev n=I (P.length+U.length+V.length:Nat)) (hc:s.ev c = .clo 203 [])
  (ho:FitO s [(5,g,⟨199,8,(P++U++V++S).map bc,1⟩)])
  (hK:∀(s1:St) (W:List BN),W.Perm (U++V)→(∀c,cA aO c W=cA aO c (U++V))→fe aO W→K (({ reg:=s.reg,own:=(s1.over [] [(5,g,⟨199,8,(P++W++S).map bc,1⟩)]).own }:St).putR d (.tup []))) :
  Sm Tryz.prog lay.get s ⟨some d,.call ⟨.value (.func 233),#[x,y,z,n,c],tys⟩,ty,pos,af,none⟩ K:=by
 have hlen:N=P.length+U.length+V.length+S.length:=by rw[hN];simp;omega
 obtain⟨m,hm⟩:∃m,m=P.length+U.length:=⟨_,rfl⟩
 obtain⟨b,hb⟩:∃b,b=m+V.length:=⟨_,rfl⟩
 rw[←hm]at hz hn hlen
 rw[←hb]at hn
 refine bE layOk rfl rfl Tryz.func233 rfl (by decide) rfl rfl ?_
 show PWP _ _ _ _ (aQ s (([x,y,z,n,c]:List Operand).map s.ev++[]))
 rw[show(([x,y,z,n,c]:List Operand).map s.ev++([]:List PV))=[.als 5 g 0 N,I P.length,I m,I b,.clo 203 []] by simp[hx,hy,hz,hn,hc]]
 rw[show aQ s [.als 5 g 0 N,I P.length,I m,I b,.clo 203 []]=aQ (s.over [] [(5,g,⟨199,8,(P++U++V++S).map bc,1⟩)]) [.als 5 g 0 N,I P.length,I m,I b,.clo 203 []] by rw[Fit.over (l:=[]) ho]]
 have hwa:IntKind.i64.wrap (((m:Nat):Int)-(P.length:Nat))=(U.length:Nat):=by rw[wrap_i64 (by omega) (by omega)];omega
 have hwb:IntKind.i64.wrap (((b:Nat):Int)-(m:Nat))=(V.length:Nat):=by rw[wrap_i64 (by omega) (by omega)];omega
 obtain⟨D,hD⟩:∃D,D=(P.length+b)/2:=⟨_,rfl⟩
 have hmid:IntKind.i64.wrap (IntKind.u64.wrap (IntKind.i64.wrap (((P.length:Nat):Int)+((b:Nat):Int)))/2^Int.toNat 1)=((D:Nat):Int):=by rw[tK _ _ (by omega),hD]
 have hnn:IntKind.i64.wrap (((D:Nat):Int)+(m:Nat))=((D+m:Nat):Int):=by rw[wrap_i64 (by omega) (by omega)];omega
 have hpp:IntKind.i64.wrap (((D+m:Nat):Int)-1)=((D+m-1:Nat):Int):=by rw[wrap_i64 (by omega) (by omega)];omega
 repeat refine aa rfl ?_
 rw[hwa]
 refine ab rfl ?_ ?_<;>intro h
 ·have:=of_decide_eq_true h
  omega
 clear h
 repeat refine aa rfl ?_
 rw[hwb]
 refine ab rfl ?_ ?_<;>intro h
 ·have:=of_decide_eq_true h
  omega
 clear h
 repeat refine aa rfl ?_
 rw[hmid]
 repeat refine aa rfl ?_
 rw[hnn]
 refine q_ (fun q:Nat × Nat=>P.length≤q.1∧q.1≤q.2∧q.2≤m∧q.2≤D∧D+m≤q.1+b∧(q.1=P.length∨q.1+b=D+m)∧(q.2=D∨q.2=m)) (fun q=>[(0,.als 5 g 0 N),(1,I P.length),(2,I m),(3,I b),(4,.clo 203 []),(18,I D),(19,I (D+m:Nat)),(20,I (q.1:Nat)),(21,I (q.2:Nat))]) (fun _=>[(5,g,⟨199,8,(P++U++V++S).map bc,1⟩)]) ?_ ?_
 ·refine ab rfl ?_ ?_<;>intro h
  ·have hgt:D<m:=by have:=of_decide_eq_true h;omega
   clear h
   have hnb:IntKind.i64.wrap (((D+m:Nat):Int)-(b:Nat))=((D+m-b:Nat):Int):=by rw[wrap_i64 (by omega) (by omega)];omega
   repeat refine aa rfl ?_
   exact⟨(D+m-b,D),⟨by simp only;omega,by simp only;omega,by simp only;omega,by simp only;omega,by simp only;omega,.inr (by simp only;omega),.inl rfl⟩,rfl,rfl,rfl,rfl,rfl,rfl,rfl,congrArg I hnb,rfl,rfl,trivial⟩
  ·have hle:m≤D:=by have:=of_decide_eq_false h;omega
   clear h
   repeat refine aa rfl ?_
   exact⟨(P.length,m),⟨by simp only;omega,by simp only;omega,by simp only;omega,by simp only;omega,by simp only;omega,.inl rfl,.inr rfl⟩,rfl,rfl,rfl,rfl,rfl,rfl,rfl,rfl,rfl,rfl,trivial⟩
 rintro⟨lo,hi⟩ ⟨q1,q2,q3,q4,q5,q6,q7⟩ s1
 simp only at q1 q2 q3 q4 q5 q6 q7
 dsimp only
 repeat refine aa rfl ?_
 rw[hpp]
 refine aq (fun q:Nat × Nat=>lo≤q.1∧q.1≤q.2∧q.2≤hi∧DQ U V P.length m (D+m) lo q.1∧DR U V P.length m (D+m) hi q.2) (fun q=>[(0,.als 5 g 0 N),(1,I P.length),(2,I m),(3,I b),(4,.clo 203 []),(18,I D),(19,I (D+m:Nat)),(20,I (q.1:Nat)),(21,I (q.2:Nat)),(22,I (D+m-1:Nat))])
  (fun _=>[(5,g,⟨199,8,(P++U++V++S).map bc,1⟩)]) (fun q=>q.2-q.1) (lo,hi) ⟨Nat.le_refl _,q2,Nat.le_refl _,.inl rfl,.inl rfl⟩ ⟨rfl,rfl,rfl,rfl,rfl,rfl,rfl,rfl,rfl,rfl,rfl,trivial⟩ ?_
 rintro⟨st,rr⟩ s2 ⟨l1,l2,l3,hA,hB⟩
 simp only at l1 l2 l3 hA hB
 dsimp only
 repeat refine aa rfl ?_
 refine ab rfl ?_ ?_<;>intro h
 ·have hlt:st<rr:=by have:=of_decide_eq_true h;omega
  clear h
  obtain⟨f,hf⟩:∃f,f=(st+rr)/2:=⟨_,rfl⟩
  obtain⟨u,hu⟩:=aI (show f-P.length<U.length by omega)
  obtain⟨v,hv⟩:=aI (show D-1-f<V.length by omega)
  have hmf:IntKind.i64.wrap (IntKind.u64.wrap (IntKind.i64.wrap (((st:Nat):Int)+((rr:Nat):Int)))/2^Int.toNat 1)=((f:Nat):Int):=by rw[tK _ _ (by omega),hf]
  have hpf:IntKind.i64.wrap (((D+m-1:Nat):Int)-(f:Nat))=((m+(D-1-f):Nat):Int):=by rw[wrap_i64 (by omega) (by omega)];omega
  have hr1:((P++U++V++S).map bc)[m+(D-1-f)]? = some (bc v):=by rw[hm];exact DW hv
  have hr2:((P++U++V++S).map bc)[f]? = some (bc u):=by rw[show f=P.length+(f-P.length) by omega];exact DV hu
  have hw1:IntKind.i64.wrap (((f:Nat):Int)+1)=((f+1:Nat):Int):=by rw[wrap_i64 (by omega) (by omega)];omega
  repeat refine aa rfl ?_
  rw[hmf]
  refine ak 14 [158,159,160,161,162,163,164,165,166,167,168,169,170,171] (by decide +kernel) ?_
  repeat refine aa rfl ?_
  rw[hpf]
  refine ic rfl rfl rfl rfl rfl rfl rfl rfl rfl ?_
  rw[Int.toNat_natCast,Nat.zero_add (m+(D-1-f))]
  refine br rfl rfl (bJ rfl rfl rfl hr1 rfl) ?_
  repeat refine aa rfl ?_
  refine ic rfl rfl rfl rfl rfl rfl rfl rfl rfl ?_
  rw[Int.toNat_natCast,Nat.zero_add f]
  refine br rfl rfl (bJ rfl rfl rfl hr2 rfl) ?_
  repeat refine aa rfl ?_
  refine br rfl rfl (lE rfl (gy (hs v (List.mem_append_right _ (List.mem_of_getElem? hv))) (hs u (List.mem_append_left _ (List.mem_of_getElem? hu)))) rfl (by repeat' constructor) rfl rfl) ?_
  repeat refine aa rfl ?_
  refine ab rfl ?_ ?_<;>intro h
  ·have hge2:aO u≤aO v:=by
    have h9:¬sgn (aO v-aO u)<0:=by simpa using h
    rw[ca]at h9
    grind
   clear h
   repeat refine aa rfl ?_
   exact⟨(f+1,rr),⟨by simp only;omega,by simp only;omega,l3,.inr ⟨f-P.length,u,v,by omega,hu,by rw[show D+m-(f+1)-m=D-1-f by omega];exact hv,hge2⟩,hB⟩,by simp only;omega,rfl,rfl,rfl,rfl,rfl,rfl,rfl,congrArg I hw1,rfl,rfl,rfl,trivial⟩
  ·have hlt2:aO v<aO u:=by
    have h9:sgn (aO v-aO u)<0:=by simpa using h
    have:=(ca _).1 h9
    grind
   clear h
   repeat refine aa rfl ?_
   exact⟨(st,f),⟨l1,by simp only;omega,by simp only;omega,hA,.inr ⟨D-1-f,v,u,by omega,hv,hu,hlt2⟩⟩,by simp only;omega,rfl,rfl,rfl,rfl,rfl,rfl,rfl,rfl,rfl,rfl,rfl,trivial⟩
 ·have he:st=rr:=by have:=of_decide_eq_false h;omega
  clear h
  subst he
  obtain⟨k,hk⟩:∃k,k=st-P.length:=⟨_,rfl⟩
  obtain⟨j,hj⟩:∃j,j=D-st:=⟨_,rfl⟩
  have c1:zO aO (U.take k) (V.drop j):=by
   refine zW hU hV ?_
   rcases hA with e|⟨s',u,v,e,hu,hv,huv⟩
   ·rcases q6 with e2|e2
    ·exact .inl (by omega)
    ·exact .inr (.inl (by omega))
   ·exact .inr (.inr ⟨s',u,v,by omega,hu,by rw[show j=D+m-st-m by omega];exact hv,huv⟩)
  have c2s:CZ aO (V.take j) (U.drop k):=by
   refine zX hV hU ?_
   rcases hB with e|⟨t',v,u,e,hv,hu,huv⟩
   ·rcases q7 with e2|e2
    ·exact .inl (by omega)
    ·exact .inr (.inl (by omega))
   ·exact .inr (.inr ⟨t',v,u,by omega,hv,by rw[hk];exact hu,huv⟩)
  have c2:zO aO (V.take j) (U.drop k):=fun x hx y hy=>Rat.le_of_lt (c2s x hx y hy)
  have hend:IntKind.i64.wrap (((D+m:Nat):Int)-(st:Nat))=((m+j:Nat):Int):=by rw[wrap_i64 (by omega) (by omega)];omega
  have hkl:(U.take k).length=k:=by rw[List.length_take];omega
  have hjl:(V.take j).length=j:=by rw[List.length_take];omega
  have hkd:(U.drop k).length=U.length-k:=List.length_drop
  have hjd:(V.drop j).length=V.length-j:=List.length_drop
  have eU:U.take k++U.drop k=U:=List.take_append_drop _ _
  have eV:V.take j++V.drop j=V:=List.take_append_drop _ _
  have hR0:P++U++V++S=P++U.take k++U.drop k++V.take j++(V.drop j++S):=by
   have e1:P++U++V++S=P++(U.take k++U.drop k)++(V.take j++V.drop j)++S:=by rw[eU,eV]
   rw[e1];simp only[List.append_assoc]
  (repeat ((fail_if_success (with_reducible refine aJ 39 ?_));refine cn rfl ?_))
  rw[hend]
  have hR1:j=0∨k=U.length→P++U++V++S=P++U.take k++V.take j++(U.drop k++V.drop j++S):=by
   rintro(h|h)
   ·rw[hR0,h,List.take_zero,List.append_nil,List.append_nil];try simp only[List.append_assoc]
   ·rw[hR0,h,List.drop_length,List.append_nil,List.nil_append];try simp only[List.append_assoc]
  have hW1:j=0∨k=0→fe aO (U.take k++V.take j):=fun h=>lJ (gQ hU k) (gQ hV j) fun x hx y hy=>by
   rcases h with h|h
   ·rw[h]at hy;simp at hy
   ·rw[h]at hx;simp at hx
  have hW2:j=V.length∨k=U.length→fe aO (U.drop k++V.drop j):=fun h=>lJ (gP hU k) (gP hV j) fun x hx y hy=>by
   rcases h with h|h
   ·rw[h]at hy;simp at hy
   ·rw[h]at hx;simp at hx
  have hsT:∀p∈U.take k++V.take j,p.at'.sz 7000000:=fun p hp=>by
   rcases List.mem_append.1 hp with h|h
   ·exact hs p (List.mem_append_left _ (List.mem_of_mem_take h))
   ·exact hs p (List.mem_append_right _ (List.mem_of_mem_take h))
  have hsD:∀p∈U.drop k++V.drop j,p.at'.sz 7000000:=fun p hp=>by
   rcases List.mem_append.1 hp with h|h
   ·exact hs p (List.mem_append_left _ (List.mem_of_mem_drop h))
   ·exact hs p (List.mem_append_right _ (List.mem_of_mem_drop h))
  refine tW (fun _:Unit=>True) (fun _=>[(0,.als 5 g 0 N),(1,I P.length),(3,I b),(4,.clo 203 []),(18,I D),(20,I (st:Nat)),(24,I (m+j:Nat))]) (fun _=>[(5,g,⟨199,8,(P++U.take k++V.take j++(U.drop k++V.drop j++S)).map bc,1⟩)]) ?_ ?_
  ·repeat refine aa rfl ?_
   refine dl rfl rfl rfl ?_ ?_<;>intro h
   ·have hlt:st<m:=by have:=of_decide_eq_true h;omega
    clear h
    repeat refine aa rfl ?_
    refine ab rfl ?_ ?_<;>intro h
    ·have hj0:0<j:=by have:=of_decide_eq_true h;omega
     clear h
     rw[hR0]
     ((repeat ((fail_if_success (with_reducible refine aJ 40 ?_));refine cn rfl ?_));refine aB 5 ?_)
     repeat refine aa rfl ?_
     refine aK rfl (CJ (N:=N) (P++U.take k) (U.drop k) (V.take j) (V.drop j++S) (by intro e;have:=congrArg List.length e;rw[hkd]at this;have:U.length-k=0:=this;omega) (by intro e;have:=congrArg List.length e;rw[hjl]at this;have:j=0:=this;omega) (by rw[←hR0];exact hN) hN1 rfl (congrArg (fun n:Nat=>I n) (show st=(P++U.take k).length by rw[List.length_append];omega)) (congrArg (fun n:Nat=>I n) (show m=(P++U.take k).length+(U.drop k).length by rw[List.length_append];omega)) (congrArg (fun n:Nat=>I n) (show m+j=(P++U.take k).length+(U.drop k).length+(V.take j).length by rw[List.length_append];omega)) rfl ⟨rfl,trivial⟩ fun s4=>?_)
     refine aD ?_
     repeat refine aa rfl ?_
     refine⟨(),trivial,rfl,rfl,rfl,rfl,rfl,rfl,rfl,?_,trivial⟩
     rw[show P++U.take k++V.take j++(U.drop k++V.drop j++S)=P++U.take k++V.take j++U.drop k++(V.drop j++S) by simp only[List.append_assoc]]
     rfl
    ·have hj0:j=0:=by have:=of_decide_eq_false h;omega
     clear h
     repeat refine aa rfl ?_
     exact⟨(),trivial,rfl,rfl,rfl,rfl,rfl,rfl,rfl,by rw[←hR1 (.inl hj0)];rfl,trivial⟩
   ·have hge:k=U.length:=by have:=of_decide_eq_false h;omega
    clear h
    repeat refine aa rfl ?_
    exact⟨(),trivial,rfl,rfl,rfl,rfl,rfl,rfl,rfl,by rw[←hR1 (.inr hge)];rfl,trivial⟩
  intro _ _ s3
  (repeat ((fail_if_success (with_reducible refine aJ 41 ?_));refine cn rfl ?_))
  refine tW (fun W:List BN=>W.Perm (U.take k++V.take j)∧(∀c,cA aO c W=cA aO c (U.take k++V.take j))∧fe aO W) (fun _=>[(0,.als 5 g 0 N),(3,I b),(4,.clo 203 []),(18,I D),(24,I (m+j:Nat))]) (fun W=>[(5,g,⟨199,8,(P++W++(U.drop k++V.drop j++S)).map bc,1⟩)]) ?_ ?_
  ·have hE:P++U.take k++V.take j++(U.drop k++V.drop j++S)=P++(U.take k++V.take j)++(U.drop k++V.drop j++S):=by simp only[List.append_assoc]
   repeat refine aa rfl ?_
   refine dl rfl rfl rfl ?_ ?_<;>intro h
   ·have hk0:0<k:=by have:=of_decide_eq_true h;omega
    clear h
    repeat refine aa rfl ?_
    refine ab rfl ?_ ?_<;>intro h
    ·have hj0:0<j:=by have:=of_decide_eq_true h;omega
     clear h
     ((repeat ((fail_if_success (with_reducible refine aJ 42 ?_));refine cn rfl ?_));refine aB 5 ?_)
     repeat refine aa rfl ?_
     refine aK rfl (ih (N:=N) P (U.take k) (V.take j) (U.drop k++V.drop j++S) (by omega) (by intro e;have:=congrArg List.length e;rw[hkl]at this;have:k=0:=this;omega) (by intro e;have:=congrArg List.length e;rw[hjl]at this;have:j=0:=this;omega) (gQ hU k) (gQ hV j) hsT (by rw[hlen];simp only[List.length_append];omega) hN1 rfl rfl (congrArg (fun n:Nat=>I n) (show st=P.length+(U.take k).length by omega)) (congrArg (fun n:Nat=>I n) (show D=P.length+(U.take k).length+(V.take j).length by omega)) rfl ⟨rfl,trivial⟩ fun s4 W hp hf hs4=>?_)
     refine aD ?_
     repeat refine aa rfl ?_
     exact⟨W,⟨hp,hf,hs4⟩,rfl,rfl,rfl,rfl,rfl,rfl,trivial⟩
    ·have hj0:j=0:=by have:=of_decide_eq_false h;omega
     clear h
     repeat refine aa rfl ?_
     exact⟨U.take k++V.take j,⟨.refl _,fun _=>rfl,hW1 (.inl hj0)⟩,rfl,rfl,rfl,rfl,rfl,by rw[←hE];rfl,trivial⟩
   ·have hk0:k=0:=by have:=of_decide_eq_false h;omega
    clear h
    repeat refine aa rfl ?_
    exact⟨U.take k++V.take j,⟨.refl _,fun _=>rfl,hW1 (.inr hk0)⟩,rfl,rfl,rfl,rfl,rfl,by rw[←hE];rfl,trivial⟩
  rintro W1 ⟨p1,f1,s1W⟩ s5
  have hWl:W1.length=k+j:=by rw[p1.length_eq,List.length_append];omega
  have fin:∀(W2:List BN),W2.Perm (U.drop k++V.drop j)→(∀c,cA aO c W2=cA aO c (U.drop k++V.drop j))→fe aO W2→∀s6:St,K (({ reg:=s.reg,own:=(s6.over [] [(5,g,⟨199,8,(P++W1++W2++S).map bc,1⟩)]).own }:St).putR d (.tup [])):=fun W2 p2 f2 s2W s6=>by
   obtain⟨r1,r2⟩:=pf hU hV c1 c2 p1 p2 s1W s2W
   have:=hK s6 (W1++W2) r2 (sd c2s f1 f2) r1
   rwa [show P++(W1++W2)++S=P++W1++W2++S by simp only[List.append_assoc]]at this
  have hE2:P++W1++(U.drop k++V.drop j++S)=P++W1++(U.drop k++V.drop j)++S:=by simp only[List.append_assoc]
  repeat refine aa rfl ?_
  refine dl rfl rfl rfl ?_ ?_<;>intro h
  ·have hk1:k<U.length:=by have:=of_decide_eq_true h;omega
   clear h
   repeat refine aa rfl ?_
   refine ab rfl ?_ ?_<;>intro h
   ·have hj1:j<V.length:=by have:=of_decide_eq_true h;omega
    clear h
    rw[show P++W1++(U.drop k++V.drop j++S)=P++W1++U.drop k++V.drop j++S by simp only[List.append_assoc]]
    ((repeat ((fail_if_success (with_reducible refine aJ 44 ?_));refine cn rfl ?_));refine aB 5 ?_)
    repeat refine aa rfl ?_
    refine aK rfl (ih (N:=N) (P++W1) (U.drop k) (V.drop j) S (by omega) (by intro e;have:=congrArg List.length e;rw[hkd]at this;have:U.length-k=0:=this;omega) (by intro e;have:=congrArg List.length e;rw[hjd]at this;have:V.length-j=0:=this;omega) (gP hU k) (gP hV j) hsD (by rw[hlen];simp only[List.length_append];omega) hN1 rfl (congrArg (fun n:Nat=>I n) (show D=(P++W1).length by rw[List.length_append];omega)) (congrArg (fun n:Nat=>I n) (show m+j=(P++W1).length+(U.drop k).length by rw[List.length_append];omega)) (congrArg (fun n:Nat=>I n) (show b=(P++W1).length+(U.drop k).length+(V.drop j).length by rw[List.length_append];omega)) rfl ⟨rfl,trivial⟩ fun s6 W2 p2 f2 s2W=>?_)
    refine aD ?_
    repeat refine aa rfl ?_
    exact cf rfl (fin W2 p2 f2 s2W s6)
   ·have hj1:j=V.length:=by have:=of_decide_eq_false h;omega
    clear h
    rw[hE2]
    repeat refine aa rfl ?_
    exact cf rfl (fin _ (.refl _) (fun _=>rfl) (hW2 (.inl hj1)) s5)
  ·have hk1:k=U.length:=by have:=of_decide_eq_false h;omega
   clear h
   rw[hE2]
   repeat refine aa rfl ?_
   exact cf rfl (fin _ (.refl _) (fun _=>rfl) (hW2 (.inr hk1)) s5)
set_option maxRecDepth 20000 in
theorem zr (w:Nat):∀ {K:St→Prop} {s:St} {d g N:Nat} {x y z n c:Operand} {tys:Array TypeId} {ty:TypeId} {pos:String} {af:Array Edge} (P U V S:List BN),U.length+V.length≤w→U≠[]→V≠[]→fe aO U→fe aO V→(∀p∈U++V,p.at'.sz 7000000)→N=(P++U++V++S).length→N≤1000 →
  s.ev x = .als 5 g 0 N→s.ev y=I P.length→s.ev z=I (P.length+U.length:Nat)→s.ev n=I (P.length+U.length+V.length:Nat)→s.ev c = .clo 203 []→FitO s [(5,g,⟨199,8,(P++U++V++S).map bc,1⟩)] →
  (∀(s1:St) (W:List BN),W.Perm (U++V)→(∀c,cA aO c W=cA aO c (U++V))→fe aO W→K (({ reg:=s.reg,own:=(s1.over [] [(5,g,⟨199,8,(P++W++S).map bc,1⟩)]).own }:St).putR d (.tup []))) →
  Sm Tryz.prog lay.get s ⟨some d,.call ⟨.value (.func 233),#[x,y,z,n,c],tys⟩,ty,pos,af,none⟩ K:=by
 induction w with
 |zero =>
  intro K s d g N x y z n c tys ty pos af P U V S hw hU
  have:U.length=0:=by omega
  exact absurd (List.length_eq_zero_iff.1 this) hU
 |succ w ih =>
  intro K s d g N x y z n c tys ty pos af P U V S hw hU0 hV0 hU hV hs hN hN1 hx hy hz hn hc ho hK
  by_cases h1:U.length=1
  ·obtain⟨u,rfl⟩:=List.length_eq_one_iff.1 h1
   exact Bi P u V S hV (fun p hp=>hs p hp) hN hN1 hx hy hz hn hc ho hK
  by_cases h2:V.length=1
  ·obtain⟨v,rfl⟩:=List.length_eq_one_iff.1 h2
   exact Bj P U v S h1 hU (fun p hp=>hs p (by
    rcases List.mem_cons.1 hp with rfl|hp
    ·exact List.mem_append_right _ (List.mem_singleton_self _)
    ·exact List.mem_append_left _ hp)) hN hN1 hx hy hz hn hc ho hK
  have p1:0<U.length:=List.length_pos_iff.2 hU0
  have p2:0<V.length:=List.length_pos_iff.2 hV0
  exact Bk ih P U V S hw (by omega) (by omega) hU hV hs hN hN1 hx hy hz hn hc ho hK
theorem tI {A B S:List BN} {q:Nat} {x:BN} (h:B[q]? = some x):((A++B++S).map bc)[A.length+q]? = some (bc x):=by
 have hq:=(List.getElem?_eq_some_iff.1 h).1
 rw[List.getElem?_map,List.append_assoc,List.getElem?_append_right (by omega),show A.length+q-A.length=q by omega,List.getElem?_append_left hq,h];rfl
theorem tJ {A B S:List BN} {q:Nat} {y:BN} (h:q<B.length):(A++B++S).set (A.length+q) y=A++B.set q y++S:=by
 rw[List.append_assoc,List.set_append_right _ _ (by omega),show A.length+q-A.length=q by omega,List.set_append_left _ _ h,List.append_assoc]
set_option maxRecDepth 20000 in
theorem o9 {K:St→Prop} {s:St} {d g N:Nat} {x y z c:Operand} {tys:Array TypeId} {ty:TypeId} {pos:String} {af:Array Edge} (A l S:List BN) (hN:N=(A++l++S).length) (hN1:N≤1000)
  (hx:s.ev x = .als 5 g 0 N) (hy:s.ev y=I A.length) (hz:s.ev z=I (A.length+l.length:Nat)) (hc:s.ev c = .clo 203 [])
  (hd:∀p∈l,p.at'.sz 7000000)
  (ho:FitO s [(5,g,⟨199,8,(A++l++S).map bc,1⟩)])
  (hK:∀s1:St,K (({ reg:=s.reg,own:=(s1.over [] [(5,g,⟨199,8,(A++aF aO l++S).map bc,1⟩)]).own }:St).putR d (.tup []))) :
  Sm Tryz.prog lay.get s ⟨some d,.call ⟨.value (.func 232),#[x,y,z,c],tys⟩,ty,pos,af,none⟩ K:=by
 refine bE layOk rfl rfl Tryz.func232 rfl (by decide) rfl rfl ?_
 show PWP _ _ _ _ (aQ s (([x,y,z,c]:List Operand).map s.ev++[]))
 rw[show(([x,y,z,c]:List Operand).map s.ev++([]:List PV))=[.als 5 g 0 N,I A.length,I (A.length+l.length:Nat),.clo 203 []] by simp[hx,hy,hz,hc]]
 rw[show aQ s [.als 5 g 0 N,I A.length,I (A.length+l.length:Nat),.clo 203 []]=aQ (s.over [] [(5,g,⟨199,8,(A++l++S).map bc,1⟩)]) [.als 5 g 0 N,I A.length,I (A.length+l.length:Nat),.clo 203 []] by rw[Fit.over (l:=[]) ho]]
 have hlen:N=A.length+l.length+S.length:=by rw[hN];simp;omega
 have h1s:aF aO (l.take 1)++l.drop 1=l:=by
  cases l with
  |nil=>rfl
  |cons x r=>rfl
 have hw0:IntKind.i64.wrap (((A.length:Nat):Int)+1)=((A.length+1:Nat):Int):=by rw[wrap_i64 (by omega) (by omega)];omega
 repeat refine aa rfl ?_
 rw[hw0]
 refine aq (fun i=>1≤i∧(i≤l.length∨i=1)) (fun i=>[(0,.als 5 g 0 N),(1,I A.length),(2,I (A.length+l.length:Nat)),(3,.clo 203 []),(8,I (A.length+i:Nat))])
  (fun i=>[(5,g,⟨199,8,(A++(aF aO (l.take i)++l.drop i)++S).map bc,1⟩)]) (fun i=>l.length+1-i) 1 ⟨Nat.le_refl _,.inr rfl⟩ ⟨rfl,rfl,rfl,rfl,rfl,by rw[h1s];rfl,trivial⟩ ?_
 rintro i s1 ⟨hi1,hi⟩
 repeat refine aa rfl ?_
 refine ab rfl ?_ ?_<;>intro h
 ·have hlt:i<l.length:=by have:=of_decide_eq_true h;omega
  clear h
  obtain⟨p,hp⟩:=aI hlt
  have htk:l.take (i+1)=l.take i++[p]:=b0 hp
  have hdr:l.drop i=p::l.drop (i+1):=ez hp
  have hnx:IntKind.i64.wrap (((A.length+i:Nat):Int)+1)=((A.length+(i+1):Nat):Int):=by rw[wrap_i64 (by omega) (by omega)];omega
  generalize hP:aF aO (l.take i)=P at *
  have hPl:P.length=i:=by rw[←hP,et,List.length_take];omega
  have hstart:P++l.drop i=bH P p i++l.drop (i+1):=by
   have hti:P.take i=P:=List.take_of_length_le (by omega)
   have hdi:P.drop i=[]:=List.drop_eq_nil_of_le (by omega)
   rw[hdr,bH,hti,hdi];simp
  repeat refine aa rfl ?_
  refine aq (fun j=>j≤i∧∀q y,j≤q→P[q]? = some y→aO p<aO y) (fun j=>[(0,.als 5 g 0 N),(1,I A.length),(2,I (A.length+l.length:Nat)),(3,.clo 203 []),(8,I (A.length+i:Nat)),(9,I (A.length+j:Nat))])
   (fun j=>[(5,g,⟨199,8,(A++(bH P p j++l.drop (i+1))++S).map bc,1⟩)]) (fun j=>j) i ⟨Nat.le_refl _,fun q y hq hy=>by rw[List.getElem?_eq_none (by omega)]at hy;cases hy⟩ ⟨rfl,rfl,rfl,rfl,rfl,rfl,by rw[hstart];rfl,trivial⟩ ?_
  rintro j s2 ⟨hj,hpre⟩
  repeat refine aa rfl ?_
  refine ak 17 [18,19,20,21,22,23,24,25,26,27,28,29,30,31,32,33,34] (by decide +kernel) ?_
  repeat refine aa rfl ?_
  refine dl rfl rfl rfl ?_ ?_<;>intro h
  ·have hj0:0<j:=by have:=of_decide_eq_true h;omega
   clear h
   obtain⟨k,rfl⟩:∃k,j=k+1:=⟨j-1,by omega⟩
   have hIl:(bH P p (k+1)).length=i+1:=by simp[bH];omega
   have hB1:(bH P p (k+1)++l.drop (i+1))[k+1]? = some p:=by
    rw[List.getElem?_append_left (by omega),mr (by omega)]
   obtain⟨y,hy1⟩:=aI (show k<P.length by omega)
   have hB2:(bH P p (k+1)++l.drop (i+1))[k]? = some y:=by
    rw[List.getElem?_append_left (by omega),jF (by omega) (by omega),hy1]
   have hrow:=tI (A:=A) (S:=S) hB1
   have hrow2:=tI (A:=A) (S:=S) hB2
   have hym:y∈l:=List.mem_of_mem_take ((da aO _).mem_iff.1 (hP▸List.mem_of_getElem? hy1))
   have hw1:IntKind.i64.wrap (((A.length+(k+1):Nat):Int)-1)=((A.length+k:Nat):Int):=by rw[wrap_i64 (by omega) (by omega)];omega
   repeat refine aa rfl ?_
   refine ic rfl rfl rfl rfl rfl rfl rfl rfl rfl ?_
   rw[Int.toNat_natCast,Nat.zero_add (A.length+(k+1))]
   refine br rfl rfl (bJ rfl rfl rfl hrow rfl) ?_
   repeat refine aa rfl ?_
   rw[hw1]
   refine ic rfl rfl rfl rfl rfl rfl rfl rfl rfl ?_
   rw[Int.toNat_natCast,Nat.zero_add (A.length+k)]
   refine br rfl rfl (bJ rfl rfl rfl hrow2 rfl) ?_
   repeat refine aa rfl ?_
   refine aS rfl rfl rfl (gy (hd p (List.mem_of_getElem? hp)) (hd y hym)) rfl rfl rfl ?_
   repeat refine aa rfl ?_
   refine ab rfl ?_ ?_<;>intro h
   ·have hlt2:aO p<aO y:=by have:=(ca _).1 (of_decide_eq_true h);grind
    clear h
    repeat refine aa rfl ?_
    refine aM 15 0 [37,38,39,40,41,42,43,44,45,46,47,48,49,50,51] [2,3,4] (by decide +kernel) rfl ?_
    repeat refine aa rfl ?_
    rw[hw1]
    refine ic rfl rfl rfl rfl rfl rfl rfl rfl rfl ?_
    rw[Int.toNat_natCast,Nat.zero_add (A.length+k)]
    refine br rfl rfl (bJ rfl rfl rfl hrow2 rfl) ?_
    repeat refine aa rfl ?_
    refine ic rfl rfl rfl rfl rfl rfl rfl rfl rfl ?_
    rw[Int.toNat_natCast,Nat.zero_add (A.length+(k+1))]
    refine br rfl rfl (bJ rfl rfl rfl hrow rfl) ?_
    repeat refine aa rfl ?_
    refine ic rfl rfl rfl rfl rfl rfl rfl rfl rfl ?_
    rw[Int.toNat_natCast,Nat.zero_add (A.length+(k+1))]
    repeat refine aa rfl ?_
    refine bp (bk (kd':=1) rfl rfl rfl hrow rfl rfl (by repeat' constructor) rfl rfl rfl rfl ?_)
    refine ic rfl rfl rfl rfl rfl rfl rfl rfl rfl ?_
    rw[Int.toNat_natCast,Nat.zero_add (A.length+k)]
    refine bp (bk (kd':=1) rfl rfl rfl (row:=bc y) (by
     show(((A++(bH P p (k+1)++l.drop (i+1))++S).map bc).set (A.length+(k+1)) _)[A.length+k]? = _
     rw[List.getElem?_set_ne (by omega)];exact hrow2) rfl rfl (by repeat' constructor) rfl rfl rfl rfl ?_)
    repeat refine aa rfl ?_
    refine⟨k,⟨by omega,fun q z hq hz=>?_⟩,by omega,rfl,rfl,rfl,rfl,rfl,congrArg I hw1,?_,trivial⟩
    ·by_cases hqk:q=k
     ·subst hqk;rw[hy1]at hz;cases hz;exact hlt2
     ·exact hpre q z (by omega) hz
    ·refine Eq.trans (b:=(g,some (Cont.mk 199 8 ((((A++(bH P p (k+1)++l.drop (i+1))++S).map bc).set (A.length+(k+1)) (bc y)).set (A.length+k) (bc p)) 1))) rfl ?_
     rw[←List.map_set,←List.map_set,tJ (by rw[List.length_append];omega),tJ (by rw[List.length_set,List.length_append];omega),List.set_append_left _ _ (by omega),List.set_append_left _ _ (by rw[List.length_set];omega),ms (by omega) hy1]
   ·have hge2:aO y≤aO p:=by
     have h9:=of_decide_eq_false h
     rw[ca]at h9
     grind
    clear h
    have hpos:qZ aO P p=k+1:=lD (by omega) hpre (.inr ⟨y,hy1,hge2⟩)
    have hins:aF aO (l.take (i+1))=bH P p (k+1):=by rw[htk,f8,hP,iU,hpos]
    repeat refine aa rfl ?_
    refine⟨i+1,⟨by omega,.inl (by omega)⟩,by omega,rfl,rfl,rfl,rfl,congrArg I hnx,?_,trivial⟩
    rw[hins];rfl
  ·have hj0:j=0:=by have:=of_decide_eq_false h;omega
   subst hj0
   clear h
   have hpos:qZ aO P p=0:=lD (by omega) hpre (.inl rfl)
   have hins:aF aO (l.take (i+1))=bH P p 0:=by rw[htk,f8,hP,iU,hpos]
   repeat refine aa rfl ?_
   refine⟨i+1,⟨by omega,.inl (by omega)⟩,by omega,rfl,rfl,rfl,rfl,congrArg I hnx,?_,trivial⟩
   rw[hins];rfl
 ·have hge:l.length≤i:=by have:=of_decide_eq_false h;omega
  have hend:aF aO (l.take i)++l.drop i=aF aO l:=by
   rw[List.take_of_length_le hge,List.drop_eq_nil_of_le hge,List.append_nil]
  rw[hend]
  repeat refine aa rfl ?_
  exact cf rfl (hK s1)
def yM (A B:List BN):Nat→List BN
 |0=>A++B
 |1=>aF aO A++B
 |_=>aF aO A++aF aO B
set_option maxRecDepth 20000 in
theorem rI {K:St→Prop} {s:St} {d g:Nat} {x z c:Operand} {tys:Array TypeId} {ty:TypeId} {pos:String} {af:Array Edge} (l:List BN) (hl:l.length≤40)
  (hx:s.ev x = .als 5 g 0 (l.map bc).length) (hz:s.ev z=I l.length) (hc:s.ev c = .clo 203 [])
  (hd:∀p∈l,p.at'.sz 7000000)
  (ho:FitO s [(5,g,⟨199,8,l.map bc,1⟩)])
  (hK:∀s1:St,K (({ reg:=s.reg,own:=(s1.over [] [(5,g,⟨199,8,(aF aO l).map bc,1⟩)]).own }:St).putR d (.tup []))) :
  Sm Tryz.prog lay.get s ⟨some d,.call ⟨.value (.func 218),#[x,z,c],tys⟩,ty,pos,af,none⟩ K:=by
 rcases Nat.lt_or_ge l.length 20 with h20|h20
 ·exact mX l (by omega) hx hz hc hd ho hK
 have hK2:∀(s1:St) (W:List BN),fe aO W→(∀c,cA aO c W=cA aO c l)→K (({ reg:=s.reg,own:=(s1.over [] [(5,g,⟨199,8,W.map bc,1⟩)]).own }:St).putR d (.tup [])):=fun s1 W hs hf=>by rw[wu hs hf];exact hK s1
 rw[List.length_map]at hx
 obtain⟨A,hA⟩:∃A,A=l.take 20:=⟨_,rfl⟩
 obtain⟨B,hB⟩:∃B,B=l.drop 20:=⟨_,rfl⟩
 have hAB:A++B=l:=by rw[hA,hB];exact List.take_append_drop _ _
 have hAl:A.length=20:=by rw[hA,List.length_take];omega
 have hBl:B.length=l.length-20:=by rw[hB];exact List.length_drop
 have hdA:∀p∈A,p.at'.sz 7000000:=fun p hp=>hd p (by rw[←hAB];exact List.mem_append_left _ hp)
 have hdB:∀p∈B,p.at'.sz 7000000:=fun p hp=>hd p (by rw[←hAB];exact List.mem_append_right _ hp)
 have hn:l.length=20+B.length:=by omega
 rw[hn]at hx hz
 rw[←hAB]at ho
 have hp0:(aF aO A++aF aO B).Perm l:=by rw[←hAB];exact(da aO A).append (da aO B)
 have hf0:∀c,cA aO c (aF aO A++aF aO B)=cA aO c l:=fun c=>by rw[←hAB,bG,kH,kH,←bG]
 have hsA:=eg aO A
 have hsB:=eg aO B
 have hdS:∀p∈aF aO A++aF aO B,p.at'.sz 7000000:=fun p hp=>hd p (hp0.mem_iff.1 hp)
 have hA2:(aF aO A).length=20:=by rw[et,hAl]
 have hB2:(aF aO B).length=B.length:=et aO B
 refine bE layOk rfl rfl Tryz.func218 rfl (by decide) rfl rfl ?_
 show PWP _ _ _ _ (aQ s (([x,z,c]:List Operand).map s.ev++[]))
 rw[show(([x,z,c]:List Operand).map s.ev++([]:List PV))=[.als 5 g 0 (20+B.length),I (20+B.length:Nat),.clo 203 []] by simp[hx,hz,hc]]
 rw[show aQ s [.als 5 g 0 (20+B.length),I (20+B.length:Nat),.clo 203 []]=aQ (s.over [] [(5,g,⟨199,8,(A++B).map bc,1⟩)]) [.als 5 g 0 (20+B.length),I (20+B.length:Nat),.clo 203 []] by rw[Fit.over (l:=[]) ho]]
 have hB20:B.length≤20:=by omega
 repeat refine aa rfl ?_
 refine aq (fun k:Nat=>k≤2∧(k=2→B.length=20)) (fun k=>[(0,.als 5 g 0 (20+B.length)),(1,I (20+B.length:Nat)),(2,.clo 203 []),(6,I 20),(7,I (20*k:Nat)),(8,I (20*(k+1):Nat))])
  (fun k=>[(5,g,⟨199,8,(yM A B k).map bc,1⟩)]) (fun k=>2-k) 0 ⟨by decide,by omega⟩ ⟨rfl,rfl,rfl,rfl,rfl,rfl,rfl,trivial⟩ ?_
 rintro k s1 ⟨hk,hk2⟩
 repeat refine aa rfl ?_
 refine ab rfl ?_ ?_<;>intro h
 ·have hlt:20*(k+1)≤20+B.length:=by have:=of_decide_eq_true h;omega
  clear h
  obtain rfl|rfl:k=0∨k=1:=by omega
  ·rw[show yM A B 0=[]++A++B from rfl]
   ((repeat ((fail_if_success (with_reducible refine aJ 3 ?_));refine cn rfl ?_));refine aB 4 ?_)
   repeat refine aa rfl ?_
   refine aK rfl (o9 (N:=20+B.length) [] A B (by simp[hAl]) (by omega) rfl rfl (congrArg (fun n:Nat=>I n) (show 20*(0+1)=([]:List BN).length+A.length by rw[hAl];rfl)) rfl hdA ⟨rfl,trivial⟩ fun s2=>?_)
   refine aD ?_
   repeat refine aa rfl ?_
   exact⟨1,⟨by decide,by omega⟩,by decide,rfl,rfl,rfl,rfl,rfl,rfl,rfl,trivial⟩
  ·have hB0:B.length=20:=by omega
   rw[show yM A B 1=aF aO A++B++[] from(List.append_nil _).symm]
   ((repeat ((fail_if_success (with_reducible refine aJ 3 ?_));refine cn rfl ?_));refine aB 4 ?_)
   repeat refine aa rfl ?_
   refine aK rfl (o9 (N:=20+B.length) (aF aO A) B [] (by simp[hA2]) (by omega) rfl (congrArg (fun n:Nat=>I n) (show 20*1=(aF aO A).length by rw[hA2])) (congrArg (fun n:Nat=>I n) (show 20*(1+1)=(aF aO A).length+B.length by rw[hA2,hB0])) rfl hdB ⟨rfl,trivial⟩ fun s2=>?_)
   refine aD ?_
   repeat refine aa rfl ?_
   refine⟨2,⟨by decide,fun _=>hB0⟩,by decide,rfl,rfl,rfl,rfl,rfl,rfl,?_,trivial⟩
   rw[show yM A B 2=aF aO A++aF aO B++[] from(List.append_nil _).symm]
   rfl
 have hge:¬20*(k+1)≤20+B.length:=by have:=of_decide_eq_false h;omega
 clear h
 obtain⟨Pk,Lk,e1,e2,e3,e4,hdk⟩:∃Pk Lk:List BN,yM A B k=Pk++Lk++[]∧20*k=Pk.length∧20+B.length=Pk.length+Lk.length∧Pk++aF aO Lk++[]=aF aO A++aF aO B∧∀p∈Lk,p.at'.sz 7000000:=by
  obtain rfl|rfl:k=1∨k=2:=by omega
  ·exact⟨aF aO A,B,(List.append_nil _).symm,by rw[hA2],by rw[hA2],List.append_nil _,hdB⟩
  ·have hB0:=hk2 rfl
   exact⟨aF aO A++aF aO B,[],by rw[List.append_nil,List.append_nil];rfl,by rw[List.length_append,hA2,hB2,hB0],by rw[List.length_append,hA2,hB2,List.length_nil];omega,by rw[show aF aO ([]:List BN)=[] from rfl,List.append_nil,List.append_nil],fun p hp=>by cases hp⟩
 rw[e1]
 ((repeat ((fail_if_success (with_reducible refine aJ 6 ?_));refine cn rfl ?_));refine aB 4 ?_)
 repeat refine aa rfl ?_
 refine aK rfl (o9 (N:=20+B.length) Pk Lk [] (by rw[List.append_nil,List.length_append,e3]) (by omega) rfl (congrArg (fun n:Nat=>I n) e2) (congrArg (fun n:Nat=>I n) e3) rfl hdk ⟨rfl,trivial⟩ fun s2=>?_)
 refine aD ?_
 rw[e4]
 repeat refine aa rfl ?_
 refine aq (fun o:Option (List BN)=>∀W,o=some W→(∀c,cA aO c W=cA aO c l)∧fe aO W) (fun o=>[(0,.als 5 g 0 (20+B.length)),(1,I (20+B.length:Nat)),(2,.clo 203 []),(6,I (if o.isSome then 40 else 20))])
  (fun o=>[(5,g,⟨199,8,(o.getD (aF aO A++aF aO B)).map bc,1⟩)]) (fun o=>if o.isSome then 0 else 1) none (fun W h=>by cases h) ⟨rfl,rfl,rfl,rfl,rfl,trivial⟩ ?_
 rintro o s3 hO
 cases o with
 |some W =>
  obtain⟨hf,hsW⟩:=hO W rfl
  repeat refine aa rfl ?_
  refine ab rfl ?_ ?_<;>intro h
  ·have:(40:Int)<((20+B.length:Nat):Int):=of_decide_eq_true h
   omega
  clear h
  repeat refine aa rfl ?_
  exact cf rfl (hK2 s3 W hsW hf)
 |none =>
  repeat refine aa rfl ?_
  refine ab rfl ?_ ?_<;>intro h
  ·have hB0:0<B.length:=by
    have:(20:Int)<((20+B.length:Nat):Int):=of_decide_eq_true h
    omega
   clear h
   have e0:(none:Option (List BN)).getD (aF aO A++aF aO B)=[]++aF aO A++aF aO B++[]:=(List.append_nil _).symm
   repeat refine aa rfl ?_
   refine aq (fun o:Option (List BN)=>∀W,o=some W→B.length=20∧(∀c,cA aO c W=cA aO c l)∧fe aO W) (fun o=>[(0,.als 5 g 0 (20+B.length)),(1,I (20+B.length:Nat)),(2,.clo 203 []),(6,I 20),(7,I (if o.isSome then 40 else 0)),(8,I (if o.isSome then 80 else 40))])
    (fun o=>[(5,g,⟨199,8,(o.getD (aF aO A++aF aO B)).map bc,1⟩)]) (fun o=>if o.isSome then 0 else 1) none (fun W h=>by cases h) ⟨rfl,rfl,rfl,rfl,rfl,rfl,rfl,trivial⟩ ?_
   rintro o s4 hO2
   cases o with
   |some W =>
    obtain⟨hBe,hf,hsW⟩:=hO2 W rfl
    repeat refine aa rfl ?_
    refine ab rfl ?_ ?_<;>intro h
    ·have:(80:Int)≤((20+B.length:Nat):Int):=of_decide_eq_true h
     omega
    clear h
    repeat refine aa rfl ?_
    refine ab rfl ?_ ?_<;>intro h
    ·have:(60:Int)<((20+B.length:Nat):Int):=of_decide_eq_true h
     omega
    clear h
    repeat refine aa rfl ?_
    exact⟨some W,(fun W' h=>by cases h;exact⟨hf,hsW⟩),by simp,rfl,rfl,rfl,rfl,rfl,trivial⟩
   |none =>
    repeat refine aa rfl ?_
    refine ab rfl ?_ ?_<;>intro h
    ·have hBe:B.length=20:=by
      have:(40:Int)≤((20+B.length:Nat):Int):=of_decide_eq_true h
      omega
     clear h
     rw[e0]
     ((repeat ((fail_if_success (with_reducible refine aJ 10 ?_));refine cn rfl ?_));refine aB 7 ?_)
     repeat refine aa rfl ?_
     refine aK rfl (zr 40 (N:=20+B.length) [] (aF aO A) (aF aO B) [] (by rw[hA2,hB2];omega) (by intro e;rw[e]at hA2;cases hA2) (by intro e;rw[e]at hB2;have:0=B.length:=hB2;omega) hsA hsB hdS (by simp[hA2,hB2]) (by omega) rfl rfl (congrArg (fun n:Nat=>I n) (show 20=([]:List BN).length+(aF aO A).length by rw[hA2];rfl)) (congrArg (fun n:Nat=>I n) (show 40=([]:List BN).length+(aF aO A).length+(aF aO B).length by rw[hA2,hB2,List.length_nil]<;>omega)) rfl ⟨rfl,trivial⟩ fun s5 W hpW hfW hsW=>?_)
     refine aD ?_
     repeat refine aa rfl ?_
     refine⟨some W,(fun W' h=>by cases h;exact⟨hBe,fun c=>(hfW c).trans (hf0 c),hsW⟩),by simp,rfl,rfl,rfl,rfl,rfl,rfl,?_,trivial⟩
     rw[show(some W).getD (aF aO A++aF aO B)=[]++W++[] from(List.append_nil _).symm]
     rfl
    ·have hBe:B.length<20:=by
      have:¬(40:Int)≤((20+B.length:Nat):Int):=of_decide_eq_false h
      omega
     clear h
     repeat refine aa rfl ?_
     refine ab rfl ?_ ?_<;>intro h
     rotate_left
     ·have:¬(20:Int)<((20+B.length:Nat):Int):=of_decide_eq_false h
      omega
     clear h
     rw[e0]
     ((repeat ((fail_if_success (with_reducible refine aJ 15 ?_));refine cn rfl ?_));refine aB 5 ?_)
     repeat refine aa rfl ?_
     refine aK rfl (zr 40 (N:=20+B.length) [] (aF aO A) (aF aO B) [] (by rw[hA2,hB2];omega) (by intro e;rw[e]at hA2;cases hA2) (by intro e;rw[e]at hB2;have:0=B.length:=hB2;omega) hsA hsB hdS (by simp[hA2,hB2]) (by omega) rfl rfl (congrArg (fun n:Nat=>I n) (show 20=([]:List BN).length+(aF aO A).length by rw[hA2];rfl)) (congrArg (fun n:Nat=>I n) (show 20+B.length=([]:List BN).length+(aF aO A).length+(aF aO B).length by rw[hA2,hB2,List.length_nil]<;>omega)) rfl ⟨rfl,trivial⟩ fun s5 W hpW hfW hsW=>?_)
     refine aD ?_
     repeat refine aa rfl ?_
     refine⟨some W,(fun W' h=>by cases h;exact⟨fun c=>(hfW c).trans (hf0 c),hsW⟩),by simp,rfl,rfl,rfl,rfl,?_,trivial⟩
     rw[show(some W).getD (aF aO A++aF aO B)=[]++W++[] from(List.append_nil _).symm]
     rfl
  ·have hB0:B=[]:=List.length_eq_zero_iff.1 (by
    have:¬(20:Int)<((20+B.length:Nat):Int):=of_decide_eq_false h
    omega)
   clear h
   repeat refine aa rfl ?_
   exact cf rfl (hK2 s3 _ (by rw[hB0,show aF aO ([]:List BN)=[] from rfl,List.append_nil];exact hsA) hf0)
set_option maxRecDepth 20000 in
theorem wt {K:St→Prop} {s:St} {d g:Nat} {x c:Operand} {tys:Array TypeId} {ty:TypeId} {pos:String} {af:Array Edge} (l:List BN) (hl:l.length≤40)
  (hx:s.ev x = .als 5 g 0 (l.map bc).length) (hc:s.ev c = .clo 203 [])
  (hd:∀p∈l,p.at'.sz 7000000)
  (ho:FitO s [(5,g,⟨199,8,l.map bc,1⟩)])
  (hK:∀s1:St,K (({ reg:=s.reg,own:=(s1.over [] [(5,g,⟨199,8,(aF aO l).map bc,1⟩)]).own }:St).putR d (.tup []))) :
  Sm Tryz.prog lay.get s ⟨some d,.call ⟨.value (.func 202),#[x,c],tys⟩,ty,pos,af,none⟩ K:=by
 refine bE layOk rfl rfl Tryz.func202 rfl (by decide) rfl rfl ?_
 show PWP _ _ _ _ (aQ s (([x,c]:List Operand).map s.ev++[]))
 rw[show(([x,c]:List Operand).map s.ev++([]:List PV))=[.als 5 g 0 (l.map bc).length,.clo 203 []] by simp[hx,hc]]
 rw[show aQ s [.als 5 g 0 (l.map bc).length,.clo 203 []]=aQ (s.over [] [(5,g,⟨199,8,l.map bc,1⟩)]) [.als 5 g 0 (l.map bc).length,.clo 203 []] by rw[Fit.over (l:=[]) ho]]
 have hen:(l.map bc).length=l.length:=by rw[List.length_map]
 ((repeat ((fail_if_success (with_reducible refine aJ 0 ?_));refine cn rfl ?_));refine aB 4 ?_)
 repeat refine aa rfl ?_
 refine aK rfl (rI l hl rfl (congrArg (fun n:Nat=>I n) hen) rfl hd ⟨rfl,trivial⟩ fun s2=>?_)
 refine aD ?_
 repeat refine aa rfl ?_
 exact cf rfl (hK s2)
def zA:AR:=⟨RR.zero,RR.zero⟩
def jA (a:AR) (F:List RR):List PV:=eA a++[.sl (F.map eR)]
def zS:List PV:=zN++zN++[.nil]
theorem WeakL.append {a b c d:List PV} (h1:WeakL a b) (h2:WeakL c d):WeakL (a++c) (b++d):=by
 induction h1 with
 |nil=>exact h2
 |cons h _ ih=>exact .cons h ih
theorem fv:WeakL (zN++zN) (eA zA):=fw.append fw
theorem lQ:WeakL zS (jA zA []):=fv.append (.cons .nil .nil)
structure SQ where
 a:AR
 F:List RR
 r:AR
 e:Int
def SQ.pv (q:SQ):PV := .tup [.agg (jA q.a q.F),.agg (eA q.r),I q.e]
noncomputable def iy (b:BR):Rat × Rat:=((bd b).eqQ 150000).getD (0,0)
noncomputable def fa (b:BR):SQ :=
 if aX b=0 then
  if ct b bM=true then⟨zA,[],bM,12⟩
  else match (bj b.l).find? (ct b) with
   |some r=>⟨zA,[],r,13⟩
   |none=>if eJ b (iy b).1 (iy b).2=true then⟨zA,[],zA,14⟩ else⟨⟨ofQ (iy b).1,ofQ (iy b).2⟩,FL b.l (iy b).1 (iy b).2,zA,0⟩
 else⟨zA,[],zA,aX b⟩
noncomputable def bV (b:BR):List RR × Int :=
 if aX b=0 then
  if ct b bM=true then([],12)
  else match (bj b.l).find? (ct b) with
   |some _=>([],13)
   |none=>(FL b.l (iy b).1 (iy b).2,0)
 else([],aX b)
def BR.Good (b:BR):Prop:=b.Lim∧(aX b=0→b.Ok∧(bd b).Sz∧∀t,(kf b.l t).length≤40)
theorem mb {b:BR} (hb:b.Ok) (hs:(bd b).Sz) (h:dN b):(bd b).eqQ 150000=some (iy b)∧(bd b).Bal (iy b).1 (iy b).2∧HQ (iy b).1 24000∧HQ (iy b).2 20000:=by
 obtain⟨x,h1,h2,h3⟩:=Dt hb hs h
 have e:iy b=x:=by rw[iy,h1];rfl
 rw[e]
 exact⟨h1,h2,h3⟩
theorem gZ {b:BR} (h1:¬ct b bM=true) (h2:(bj b.l).find? (ct b)=none):dN b:=by
 refine⟨by simpa using h1,fun r hr=>?_⟩
 have:=List.find?_eq_none.1 h2 r hr
 simpa using this
set_option maxRecDepth 20000 in
theorem wo (b:BR) (hb:b.Lim) (he:aX b≠0):Ret Tryz.prog .shared 9 [.agg (eB b)] (.tup [.agg zS,.agg (zN++zN),I (aX b)]):=by
 have h1:=aV b hb
 generalize aX b=e at *
 refine Ret.of_pwp layOk mixed Go.Proofs.Tryz.func9 rfl (by decide) rfl rfl ?_
 repeat refine aa rfl ?_
 refine aS rfl rfl rfl h1 rfl rfl rfl ?_
 repeat refine aa rfl ?_
 refine ab rfl ?_ ?_<;>intro h
 ·clear h
  repeat refine aa rfl ?_
  exact aG rfl rfl rfl
 ·exfalso
  simp at h
  exact he h
set_option maxRecDepth 20000 in
theorem jn (b:BR) (hb:b.Lim) (h0:aX b=0) (r:AR) (e:Int) (he:e≠0) (h93:Ret Tryz.prog .shared 44 [.agg (eB b)] (.tup [.agg (eA r),I e])):Ret Tryz.prog .shared 9 [.agg (eB b)] (.tup [.agg zS,.agg (eA r),I e]):=by
 have h1:=aV b hb
 rw[h0]at h1
 clear h0 hb
 refine Ret.of_pwp layOk mixed Go.Proofs.Tryz.func9 rfl (by decide) rfl rfl ?_
 repeat refine aa rfl ?_
 refine aS rfl rfl rfl h1 rfl rfl rfl ?_
 repeat refine aa rfl ?_
 refine am rfl rfl rfl h93 rfl rfl ?_
 repeat refine aa rfl ?_
 refine ab rfl ?_ ?_<;>intro h
 ·clear h
  repeat refine aa rfl ?_
  refine bC [2,3] [3,4] (by decide +kernel) ?_
  repeat refine aa rfl ?_
  repeat refine aa rfl ?_
  exact aG rfl rfl rfl
 ·exfalso
  simp at h
  exact he h
set_option maxRecDepth 20000 in
theorem rF (b:BR) (hb:b.Lim) (h0:aX b=0) (h93:Ret Tryz.prog .shared 44 [.agg (eB b)] (.tup [.agg (zN++zN),I 0])) (a:AR) (h120:Ret Tryz.prog .shared 45 [.agg (eB b)] (.agg (eA a)))
  (h121:Ret Tryz.prog .shared 46 [.agg (eB b),.agg (eA a)] (.bool true)):Ret Tryz.prog .shared 9 [.agg (eB b)] (.tup [.agg zS,.agg (zN++zN),I 14]):=by
 have h1:=aV b hb
 rw[h0]at h1
 clear h0 hb
 refine Ret.of_pwp layOk mixed Go.Proofs.Tryz.func9 rfl (by decide) rfl rfl ?_
 repeat refine aa rfl ?_
 refine aS rfl rfl rfl h1 rfl rfl rfl ?_
 repeat refine aa rfl ?_
 refine am rfl rfl rfl h93 rfl rfl ?_
 repeat refine aa rfl ?_
 refine am rfl rfl rfl h120 rfl rfl ?_
 repeat refine aa rfl ?_
 refine aS rfl rfl rfl h121 rfl rfl rfl ?_
 repeat refine aa rfl ?_
 exact aG rfl rfl rfl
set_option maxRecDepth 20000 in
theorem ou (b:BR) (hb:b.Lim) (h0:aX b=0) (h93:Ret Tryz.prog .shared 44 [.agg (eB b)] (.tup [.agg (zN++zN),I 0])) (a:AR) (F:List RR) (h120:Ret Tryz.prog .shared 45 [.agg (eB b)] (.agg (eA a)))
  (h121:Ret Tryz.prog .shared 46 [.agg (eB b),.agg (eA a)] (.bool false)) (h23:Ret Tryz.prog .shared 29 [.sl (b.l.map eS),.agg (eA a)] (.tup [.sl (F.map eR),I 0])):Ret Tryz.prog .shared 9 [.agg (eB b)] (.tup [.agg (jA a F),.agg (zN++zN),I 0]):=by
 have h1:=aV b hb
 rw[h0]at h1
 clear h0 hb
 refine Ret.of_pwp layOk mixed Go.Proofs.Tryz.func9 rfl (by decide) rfl rfl ?_
 repeat refine aa rfl ?_
 refine aS rfl rfl rfl h1 rfl rfl rfl ?_
 repeat refine aa rfl ?_
 refine am rfl rfl rfl h93 rfl rfl ?_
 repeat refine aa rfl ?_
 refine am rfl rfl rfl h120 rfl rfl ?_
 repeat refine aa rfl ?_
 refine aS rfl rfl rfl h121 rfl rfl rfl ?_
 repeat refine aa rfl ?_
 refine am rfl rfl rfl h23 rfl rfl ?_
 repeat refine aa rfl ?_
 exact aG rfl rfl rfl
set_option maxRecDepth 20000 in
theorem vP (b:BR) (hb:b.Lim) (he:aX b≠0):Ret Tryz.prog .shared 10 [.agg (eB b)] (.tup [.nil,I (aX b)]):=by
 have h1:=aV b hb
 generalize aX b=e at *
 refine Ret.of_pwp layOk mixed Go.Proofs.Tryz.func10 rfl (by decide) rfl rfl ?_
 repeat refine aa rfl ?_
 refine aS rfl rfl rfl h1 rfl rfl rfl ?_
 repeat refine aa rfl ?_
 refine ab rfl ?_ ?_<;>intro h
 ·clear h
  repeat refine aa rfl ?_
  exact aG rfl rfl rfl
 ·exfalso
  simp at h
  exact he h
set_option maxRecDepth 20000 in
theorem mK (b:BR) (hb:b.Lim) (h0:aX b=0) (r:AR) (e:Int) (he:e≠0) (h93:Ret Tryz.prog .shared 44 [.agg (eB b)] (.tup [.agg (eA r),I e])):Ret Tryz.prog .shared 10 [.agg (eB b)] (.tup [.nil,I e]):=by
 have h1:=aV b hb
 rw[h0]at h1
 clear h0 hb
 refine Ret.of_pwp layOk mixed Go.Proofs.Tryz.func10 rfl (by decide) rfl rfl ?_
 repeat refine aa rfl ?_
 refine aS rfl rfl rfl h1 rfl rfl rfl ?_
 repeat refine aa rfl ?_
 refine am rfl rfl rfl h93 rfl rfl ?_
 repeat refine aa rfl ?_
 refine ab rfl ?_ ?_<;>intro h
 ·clear h
  repeat refine aa rfl ?_
  exact aG rfl rfl rfl
 ·exfalso
  simp at h
  exact he h
set_option maxRecDepth 20000 in
theorem vO (b:BR) (hb:b.Lim) (h0:aX b=0) (h93:Ret Tryz.prog .shared 44 [.agg (eB b)] (.tup [.agg (zN++zN),I 0])) (a:AR) (F:List RR) (h120:Ret Tryz.prog .shared 45 [.agg (eB b)] (.agg (eA a)))
  (h23:Ret Tryz.prog .shared 29 [.sl (b.l.map eS),.agg (eA a)] (.tup [.sl (F.map eR),I 0])):Ret Tryz.prog .shared 10 [.agg (eB b)] (.tup [.sl (F.map eR),I 0]):=by
 have h1:=aV b hb
 rw[h0]at h1
 clear h0 hb
 refine Ret.of_pwp layOk mixed Go.Proofs.Tryz.func10 rfl (by decide) rfl rfl ?_
 repeat refine aa rfl ?_
 refine aS rfl rfl rfl h1 rfl rfl rfl ?_
 repeat refine aa rfl ?_
 refine am rfl rfl rfl h93 rfl rfl ?_
 repeat refine aa rfl ?_
 refine ak 9 [20,21,22,23,24,25,26,2,3] (by decide +kernel) ?_
 repeat refine aa rfl ?_
 refine am rfl rfl rfl h120 rfl rfl ?_
 repeat refine aa rfl ?_
 refine am rfl rfl rfl h23 rfl rfl ?_
 repeat refine aa rfl ?_
 exact aG rfl rfl rfl
set_option maxRecDepth 20000 in
theorem Bb (l:List BN) (hl:l.length≤40):SortC l:=⟨fun hx hc hd ho hK=>wt l hl hx hc hd ho hK⟩
theorem xA {b:BR} (hb:b.Ok) (hs:(bd b).Sz) (h40:∀t,(kf b.l t).length≤40) (h:dN b):Ret Tryz.prog .shared 45 [.agg (eB b)] (.agg (eA ⟨ofQ (iy b).1,ofQ (iy b).2⟩)) :=
 nJ b hb h40 (fun t=>Bb _ (h40 t)) (fun t=>Bd.enough (fC hb) t (i7 h)) (by decide) (mb hb hs h).1
theorem wr (b:BR) (hg:b.Good):Ret Tryz.prog .shared 9 [.agg (eB b)] (fa b).pv:=by
 rw[fa]
 by_cases h0:aX b=0
 ·rw[if_pos h0]
  obtain⟨hb,hs,h40⟩:=hg.2 h0
  have h93:=dT b hb
  rw[dy]at h93
  by_cases h1:ct b bM=true
  ·rw[if_pos h1]at h93 ⊢
   exact(jn b hg.1 h0 bM 12 (by decide) h93).weak (WeakL.refl _) (WeakL.tup (.cons lQ.agg (WeakL.refl _)))
  ·rw[if_neg h1]at h93 ⊢
   cases h2:(bj b.l).find? (ct b) with
   |some r =>
    rw[h2]at h93
    exact(jn b hg.1 h0 r 13 (by decide) h93).weak (WeakL.refl _) (WeakL.tup (.cons lQ.agg (WeakL.refl _)))
   |none =>
    rw[h2]at h93
    have hn:=gZ h1 h2
    have h120:=xA hb hs h40 hn
    obtain⟨_,hbal,hz,ht⟩:=mb hb hs hn
    have va:Va ⟨ofQ (iy b).1,ofQ (iy b).2⟩ (iy b).1 (iy b).2 24000 20000:=⟨Vq.ofQ (h:=hz),Vq.ofQ (h:=ht)⟩
    have h121:=nR b hb ⟨ofQ (iy b).1,ofQ (iy b).2⟩ (ha:=va) (by decide)
    dsimp only
    cases hl:eJ b (iy b).1 (iy b).2 with
    |true =>
     rw[hl]at h121
     exact(rF b hg.1 h0 h93 _ h120 h121).weak (WeakL.refl _) (WeakL.tup (.cons lQ.agg (.cons fv.agg (WeakL.refl _))))
    |false =>
     rw[hl]at h121
     have h23:=eF b.l hb.lim.l hb.chkL ⟨ofQ (iy b).1,ofQ (iy b).2⟩ (ha:=va) (by decide)
     exact(ou b hg.1 h0 h93 _ _ h120 h121 h23).weak (WeakL.refl _) (WeakL.tup (.cons (.rfl _) (.cons fv.agg (WeakL.refl _))))
 ·rw[if_neg h0]
  exact(wo b hg.1 h0).weak (WeakL.refl _) (WeakL.tup (.cons lQ.agg (.cons fv.agg (WeakL.refl _))))
theorem ie (b:BR) (hg:b.Good):Ret Tryz.prog .shared 10 [.agg (eB b)] (.tup [.sl ((bV b).1.map eR),I (bV b).2]):=by
 rw[bV]
 by_cases h0:aX b=0
 ·rw[if_pos h0]
  obtain⟨hb,hs,h40⟩:=hg.2 h0
  have h93:=dT b hb
  rw[dy]at h93
  by_cases h1:ct b bM=true
  ·rw[if_pos h1]at h93 ⊢
   exact(mK b hg.1 h0 bM 12 (by decide) h93).weak (WeakL.refl _) (WeakL.tup (.cons .nil (WeakL.refl _)))
  ·rw[if_neg h1]at h93 ⊢
   cases h2:(bj b.l).find? (ct b) with
   |some r =>
    rw[h2]at h93
    exact(mK b hg.1 h0 r 13 (by decide) h93).weak (WeakL.refl _) (WeakL.tup (.cons .nil (WeakL.refl _)))
   |none =>
    rw[h2]at h93
    have hn:=gZ h1 h2
    have h120:=xA hb hs h40 hn
    obtain⟨_,hbal,hz,ht⟩:=mb hb hs hn
    have va:Va ⟨ofQ (iy b).1,ofQ (iy b).2⟩ (iy b).1 (iy b).2 24000 20000:=⟨Vq.ofQ (h:=hz),Vq.ofQ (h:=ht)⟩
    have h23:=eF b.l hb.lim.l hb.chkL ⟨ofQ (iy b).1,ofQ (iy b).2⟩ (ha:=va) (by decide)
    exact vO b hg.1 h0 h93 _ _ h120 h23
 ·rw[if_neg h0]
  exact(vP b hg.1 h0).weak (WeakL.refl _) (WeakL.tup (.cons .nil (WeakL.refl _)))
set_option maxRecDepth 20000 in
theorem r5 (n:Nat) (hn:n<18446744073709551616):Ret Tryz.prog .shared 144 [.int .u64 (n:Nat)] (.sl ((aj n).map eU)):=by
 refine Ret.of_pwp layOk mixed Go.Proofs.Tryz.func144 rfl (by decide) rfl rfl ?_
 ((repeat (first|refine aW ?_ | refine bZ ?_ | refine bY ?_ | refine bU ?_));refine aZ ?_)
 refine gL rfl trivial ?_
 ((repeat (first|refine aW ?_ | refine bZ ?_ | refine bY ?_ | refine bU ?_));refine aZ ?_)
 (first|refine ax (eP 177 1 0 rfl rfl ?_)|refine ax (eO 177 1 0 rfl rfl ?_))
 repeat refine aa rfl ?_
 refine aq (fun q:Nat × List UInt16=>(aj n=q.2++aj q.1∧q.1<18446744073709551616)∧q.1*65536^q.2.length≤n) (fun q=>[(0,.int .u64 (q.1:Nat)),(3,.als 3 (1+q.2.length) 0 (q.2.map eU).length)]) (fun q=>[(3,1+q.2.length,⟨177,1,q.2.map eU,0⟩)]) (fun q=>q.1) (n,[]) ⟨⟨rfl,hn⟩,by simp⟩ ⟨rfl,rfl,rfl,trivial⟩ ?_
 rintro⟨m,L⟩ s ⟨⟨hL,hmn⟩,hb⟩
 simp only at hL hb hmn
 dsimp only
 repeat refine aa rfl ?_
 refine ab rfl ?_ ?_<;>intro h
 ·have hm:0<m:=by have:=of_decide_eq_true h;omega
  clear h
  have hLl:L.length<4:=by
   rcases Nat.lt_or_ge L.length 4 with h|h
   ·exact h
   ·exfalso
    have h1:65536^4≤65536^L.length:=Nat.pow_le_pow_right (by decide) h
    have h2:=Nat.mul_le_mul (show 1≤m by omega) h1
    have:1*65536^4=18446744073709551616:=by decide
    omega
  have hL2:=mu hL hm
  have hb2:m/65536*65536^(L++[UInt16.ofNat m]).length≤n:=by
   rw[List.length_append,List.length_singleton,Nat.pow_succ,Nat.mul_comm (65536^_),←Nat.mul_assoc]
   exact Nat.le_trans (Nat.mul_le_mul_right _ (Nat.div_mul_le_self _ _)) hb
  have ha:=BC m hmn
  have hcv:IntKind.u16.wrap ((m-m/65536*65536:Nat):Int)=((UInt16.ofNat m).toNat:Int):=by rw[wrap_u16,aP,aP];omega
  repeat refine aa rfl ?_
  rw[ha,hcv]
  refine br rfl rfl (dx rfl rfl rfl rfl rfl rfl rfl rfl rfl rfl (by repeat' constructor) rfl) ?_
  refine ax (bQ 0 rfl rfl rfl rfl rfl rfl rfl rfl rfl rfl rfl (by repeat' constructor) (by intro row hr;first|(simp at hr;subst hr;rfl)|simp at hr) rfl rfl (by simp;omega) (by simp;omega) ?_)
  repeat refine aa rfl ?_
  refine⟨(m/65536,L++[UInt16.ofNat m]),⟨⟨hL2,by simp only;omega⟩,hb2⟩,by simp only;omega,?_,?_,?_,trivial⟩
  ·show PV.int .u64 ((m:Int)/2^(16:Int).toNat)=PV.int .u64 ((m/65536:Nat):Int)
   rw[show((2:Int)^(16:Int).toNat)=65536 by decide];congr 1
  ·exact lu eU 3 1 L (UInt16.ofNat m)
  ·exact jv eU 1 177 1 0 L (UInt16.ofNat m)
 ·have hm:m=0:=by have:=of_decide_eq_false h;omega
  subst hm
  clear h
  rw[bi,List.append_nil]at hL
  rw[hL]
  repeat refine aa rfl ?_
  exact fF rfl rfl rfl ⟨rfl,rfl,rfl⟩ rfl
set_option maxRecDepth 20000 in
theorem oP (z:Int) (hz:i64 z):Ret Tryz.prog .shared 79 [I z] (.agg (eI (bB z))):=by
 obtain⟨h0,h1⟩:=hz
 have hn:=r5 z.natAbs (by omega)
 by_cases hz:z<0
 ·rw[bB,decide_eq_true hz]
  have w1:IntKind.i64.wrap (z+1)=z+1:=wrap_i64 (by omega) (by omega)
  have w2:IntKind.i64.wrap (0-(z+1))=0-(z+1):=wrap_i64 (by omega) (by omega)
  have w3:IntKind.u64.wrap (0-(z+1))=0-(z+1):=wrap_u64 (by omega) (by omega)
  have w4:IntKind.u64.wrap (0-(z+1)+1)=((z.natAbs:Nat):Int):=by rw[wrap_u64 (by omega) (by omega)];omega
  generalize aj z.natAbs=A at *
  generalize ((z.natAbs:Nat):Int)=na at *
  refine Ret.of_pwp layOk mixed Go.Proofs.Tryz.func79 rfl (by decide) rfl rfl ?_
  repeat refine aa rfl ?_
  refine ab rfl ?_ ?_<;>intro h
  ·clear h
   repeat refine aa rfl ?_
   rw[w1]
   repeat refine aa rfl ?_
   rw[w2]
   repeat refine aa rfl ?_
   rw[w3]
   repeat refine aa rfl ?_
   rw[w4]
   repeat refine aa rfl ?_
   refine am rfl rfl rfl hn rfl rfl ?_
   repeat refine aa rfl ?_
   exact aG rfl rfl rfl
  ·exact absurd hz (of_decide_eq_false h)
 ·rw[bB,decide_eq_false hz]
  have w:IntKind.u64.wrap z=((z.natAbs:Nat):Int):=by rw[wrap_u64 (by omega) (by omega)];omega
  generalize aj z.natAbs=A at *
  refine Ret.of_pwp layOk mixed Go.Proofs.Tryz.func79 rfl (by decide) rfl rfl ?_
  repeat refine aa rfl ?_
  refine ab rfl ?_ ?_<;>intro h
  ·exact absurd (of_decide_eq_true h) hz
  ·clear h
   repeat refine aa rfl ?_
   rw[w]
   refine am rfl rfl rfl hn rfl rfl ?_
   repeat refine aa rfl ?_
   exact aG rfl rfl rfl
theorem ke (z:Int) (hz:i64 z):Ret Tryz.prog .shared 27 [I z] (.agg (eR (ofQ (z:Rat)))):=by
 have h1:=oP z hz
 have h2:=oP 1 ⟨by decide,by decide⟩
 rw[qN]
 generalize bB z=X at *
 generalize bB 1=Y at *
 refine Ret.of_pwp layOk mixed Go.Proofs.Tryz.func27 rfl (by decide) rfl rfl ?_
 repeat refine aa rfl ?_
 refine am rfl rfl rfl h1 rfl rfl ?_
 repeat refine aa rfl ?_
 refine am rfl rfl rfl h2 rfl rfl ?_
 repeat refine aa rfl ?_
 exact aG rfl rfl rfl
set_option maxRecDepth 20000 in
theorem oh (a:RI) (ha:a.l.length≤1000000000):Ret Tryz.prog .shared 95 [.agg (eI a),.agg (eI a)] (.bool true):=by
 obtain⟨n,l⟩:=a
 simp only at ha
 have hml:(l.map eU).length=l.length:=by simp
 have hnn:(n != n)=false:=by cases n<;>rfl
 have main:∀nn:Bool,nn=n→Ret Tryz.prog .shared 95 [.agg [.bool nn,.sl (l.map eU)],.agg [.bool nn,.sl (l.map eU)]] (.bool true):=by
  intro nn _
  cases nn <;>
  ·refine Ret.of_pwp layOk mixed Go.Proofs.Tryz.func95 rfl (by decide) rfl rfl ?_
   repeat refine aa rfl ?_
   refine ab rfl ?_ ?_<;>intro h
   ·simp at h
   clear h
   repeat refine aa rfl ?_
   refine aq (fun k=>k≤l.length) (fun k=>[(2,.ptr 2 1 0 0),(3,.ptr 3 1 0 0),(5,I (k:Nat))]) (fun _=>[(2,1,⟨24,2,[eI ⟨_,l⟩],2⟩),(3,1,⟨24,2,[eI ⟨_,l⟩],2⟩)]) (fun k=>l.length-k) 0 (Nat.zero_le _) ⟨rfl,rfl,rfl,rfl,rfl,trivial⟩ ?_
   intro k s hk
   repeat refine aa rfl ?_
   refine ab rfl ?_ ?_<;>intro h
   ·have hlt:k<l.length:=by have:=of_decide_eq_true h;simp only[List.length_map]at this;omega
    clear h
    obtain⟨x,hx⟩:=aI hlt
    have hw:=iA k
    repeat refine aa rfl ?_
    refine ak 11 [27,28,29,30,31,32,33,34,35,36,37] (by decide +kernel) ?_
    repeat refine aa rfl ?_
    refine bT rfl rfl rfl rfl rfl rfl rfl hx rfl ?_
    repeat refine aa rfl ?_
    refine bT rfl rfl rfl rfl rfl rfl rfl hx rfl ?_
    repeat refine aa rfl ?_
    refine ab rfl ?_ ?_<;>intro h
    ·simp at h
    clear h
    repeat refine aa rfl ?_
    exact⟨k+1,hlt,by omega,rfl,rfl,congrArg I hw,rfl,rfl,trivial⟩
   ·repeat refine aa rfl ?_
    exact aR rfl rfl rfl
 exact main n rfl
def RR.le (x:RR) (n:Nat):Prop:=x.n.l.length≤n∧x.d.l.length≤n
theorem im (x:RR) (hx:x.le 1000000000):Ret Tryz.prog .shared 41 [.agg (eR x),.agg (eR x)] (.bool true):=by
 have h1:=oh x.n hx.1
 have h2:=oh x.d hx.2
 obtain⟨xn,xd⟩:=x
 refine Ret.of_pwp layOk mixed Go.Proofs.Tryz.func41 rfl (by decide) rfl rfl ?_
 repeat refine aa rfl ?_
 refine aS rfl rfl rfl h1 rfl rfl rfl ?_
 repeat refine aa rfl ?_
 refine aS rfl rfl rfl h2 rfl rfl rfl ?_
 repeat refine aa rfl ?_
 exact aR rfl rfl rfl
theorem mP {p:Rat} {n:Nat} (h:HQ p n) (hn:n≤100000000):Ret Tryz.prog .shared 41 [.agg (eR (ofQ p)),.agg (eR (ofQ p))] (.bool true):=by
 have:=dE h.ok
 exact im _ ⟨by omega,by omega⟩
theorem sS (l:List RR) (hl:l.length≤1000000) (hs:∀x∈l,x.le 1000000000):Ret Tryz.prog .shared 16 [.sl (l.map eR),.sl (l.map eR)] (.bool true):=by
 have hml:(l.map eR).length=l.length:=by simp
 refine Ret.of_pwp layOk mixed Go.Proofs.Tryz.func16 rfl (by decide) rfl rfl ?_
 repeat refine aa rfl ?_
 refine ab rfl ?_ ?_<;>intro h
 ·simp at h
 clear h
 repeat refine aa rfl ?_
 refine aq (fun k=>k≤l.length) (fun k=>[(0,.sl (l.map eR)),(1,.sl (l.map eR)),(5,I (k:Nat))]) (fun _=>[]) (fun k=>l.length-k) 0 (Nat.zero_le _) ⟨rfl,rfl,rfl,trivial⟩ ?_
 intro k s hk
 repeat refine aa rfl ?_
 refine ab rfl ?_ ?_<;>intro h
 ·have hlt:k<l.length:=by have:=of_decide_eq_true h;omega
  clear h
  obtain⟨x,hx⟩:=aI hlt
  have hxr:=im x (hs x (List.mem_of_getElem? hx))
  have hw:=iA k
  repeat refine aa rfl ?_
  refine ak 10 [17,18,19,20,21,22,23,24,25,26] (by decide +kernel) ?_
  repeat refine aa rfl ?_
  refine bT rfl rfl rfl rfl rfl rfl rfl hx rfl ?_
  repeat refine aa rfl ?_
  refine bT rfl rfl rfl rfl rfl rfl rfl hx rfl ?_
  repeat refine aa rfl ?_
  refine aS rfl rfl rfl hxr rfl rfl rfl ?_
  repeat refine aa rfl ?_
  exact⟨k+1,hlt,by omega,rfl,rfl,congrArg I hw,trivial⟩
 ·repeat refine aa rfl ?_
  exact aR rfl rfl rfl
theorem v8 (a:AR) (hz:a.z.le 1000000000) (ht:a.t.le 1000000000):Ret Tryz.prog .shared 25 [.agg (eA a),.agg (eA a)] (.bool true):=by
 have h1:=im a.z hz
 have h2:=im a.t ht
 obtain⟨z,t⟩:=a
 refine Ret.of_pwp layOk mixed Go.Proofs.Tryz.func25 rfl (by decide) rfl rfl ?_
 repeat refine aa rfl ?_
 refine aS rfl rfl rfl h1 rfl rfl rfl ?_
 repeat refine aa rfl ?_
 refine aS rfl rfl rfl h2 rfl rfl rfl ?_
 repeat refine aa rfl ?_
 exact aR rfl rfl rfl
def rq (x:RR) (n:Nat):Bool:=decide (x.n.l.length≤n)&&decide (x.d.l.length≤n)
theorem sV {x:RR} {n:Nat}:rq x n=true↔x.sz n:=by rw[rq,Bool.and_eq_true,decide_eq_true_eq,decide_eq_true_eq];rfl
theorem jl (x:RR) (n:Nat) (hn:n≤1000000):Ret Tryz.prog .shared 43 [.agg (eR x),I (n:Nat)] (.bool (rq x n)):=by
 have e1:decide ((((x.n.l.map eU).length:Nat):Int)≤(n:Int))=decide (x.n.l.length≤n):=by rw[decide_eq_decide,List.length_map];omega
 have e2:decide ((((x.d.l.map eU).length:Nat):Int)≤(n:Int))=decide (x.d.l.length≤n):=by rw[decide_eq_decide,List.length_map];omega
 rw[rq,←e1,←e2]
 obtain⟨⟨xn,xl⟩,⟨yn,yl⟩⟩:=x
 refine Ret.of_pwp layOk mixed Go.Proofs.Tryz.func43 rfl (by decide) rfl rfl ?_
 repeat refine aa rfl ?_
 refine dl rfl rfl rfl ?_ ?_<;>intro h
 ·rw[h]
  clear h
  repeat refine aa rfl ?_
  exact aR rfl rfl rfl
 ·rw[h]
  clear h
  repeat refine aa rfl ?_
  exact aR rfl rfl rfl
theorem pH (l:List RR) (n:Nat) (hn:n≤1000000) (hl:l.length≤9223372036854775807):Ret Tryz.prog .shared 87 [.sl (l.map eR),I (n:Nat)] (.bool (l.all fun x=>rq x n)):=by
 have hml:(l.map eR).length=l.length:=by simp
 generalize hF:(l.all fun x=>rq x n)=F
 refine Ret.of_pwp layOk mixed Go.Proofs.Tryz.func87 rfl (by decide) rfl rfl ?_
 repeat refine aa rfl ?_
 refine aq (fun k=>k≤l.length∧((l.drop k).all fun x=>rq x n)=F) (fun k=>[(0,.sl (l.map eR)),(1,I (n:Nat)),(5,I (k:Nat))]) (fun _=>[]) (fun k=>l.length-k) 0 ⟨Nat.zero_le _,by rw[List.drop_zero];exact hF⟩ ⟨rfl,rfl,rfl,trivial⟩ ?_
 intro k s ⟨hk,hD⟩
 repeat refine aa rfl ?_
 refine ab rfl ?_ ?_<;>intro h
 ·have hlt:k<l.length:=by have:=of_decide_eq_true h;omega
  clear h
  obtain⟨x,hx⟩:=aI hlt
  have hr:=jl x n hn
  have hw:=iA k
  have hdr:((l.drop k).all fun x=>rq x n)=(rq x n&&(l.drop (k+1)).all fun x=>rq x n):=by
   obtain⟨hl1,h2⟩:=List.getElem?_eq_some_iff.1 hx
   rw[List.drop_eq_getElem_cons hl1,h2,List.all_cons]
  rw[hdr]at hD
  cases hs:rq x n with
  |true =>
   rw[hs]at hr hD
   rw[Bool.true_and]at hD
   repeat refine aa rfl ?_
   refine bT rfl rfl rfl rfl rfl rfl rfl hx rfl ?_
   repeat refine aa rfl ?_
   refine aS rfl rfl rfl hr rfl rfl rfl ?_
   repeat refine aa rfl ?_
   exact⟨k+1,⟨hlt,hD⟩,by omega,rfl,rfl,congrArg I hw,trivial⟩
  |false =>
   rw[hs]at hr hD
   rw[Bool.false_and]at hD
   subst hD
   repeat refine aa rfl ?_
   refine bT rfl rfl rfl rfl rfl rfl rfl hx rfl ?_
   repeat refine aa rfl ?_
   refine aS rfl rfl rfl hr rfl rfl rfl ?_
   repeat refine aa rfl ?_
   exact aR rfl rfl rfl
 ·have hie:k=l.length:=by have:=of_decide_eq_false h;omega
  clear h
  rw[hie,List.drop_length,List.all_nil]at hD
  subst hD
  repeat refine aa rfl ?_
  exact aR rfl rfl rfl
def wI (st:Nat) (s:SR):Bool:=!(decide (st<s.k.S.length)||decide (st+1<s.k.M.length)||!rq s.c 3||!(s.k.M.all fun x=>rq x 3))
theorem uh {st:Nat} {s:SR}:wI st s=true↔sX st s:=by
 rw[wI,sX]
 simp only[Bool.not_eq_true',Bool.or_eq_false_iff,decide_eq_false_iff_not,Bool.not_eq_false',List.all_eq_true,sV]
 constructor
 ·rintro⟨⟨⟨h1,h2⟩,h3⟩,h4⟩;exact⟨by omega,by omega,h3,h4⟩
 ·rintro⟨h1,h2,h3,h4⟩;exact⟨⟨⟨by omega,by omega⟩,h3⟩,h4⟩
def CL (l:List SR) (most st:Nat):Bool:=decide (l.length≤most)&&l.all (wI st)
theorem pF {l:List SR} {most st:Nat}:CL l most st=true↔iI l most st:=by
 rw[CL,Bool.and_eq_true,decide_eq_true_eq,List.all_eq_true,iI]
 constructor
 ·rintro⟨h1,h2⟩;exact⟨h1,fun s hs=>uh.1 (h2 s hs)⟩
 ·rintro⟨h1,h2⟩;exact⟨h1,fun s hs=>uh.2 (h2 s hs)⟩
def zQ (l:List SR):Prop:=l.length≤9223372036854775807∧∀s∈l,s.k.S.length≤9223372036854775807∧s.k.M.length≤9223372036854775807
set_option maxRecDepth 20000 in
theorem sW (l:List SR) (hll:zQ l) (most st:Nat) (hm:most≤1000) (hst:st≤1000):Ret Tryz.prog .shared 32 [.sl (l.map eS),I (most:Nat),I (st:Nat)] (.bool (CL l most st)):=by
 have hml:(l.map eS).length=l.length:=by simp
 by_cases h0:most<l.length
 ·rw[CL,decide_eq_false (by omega),Bool.false_and]
  refine Ret.of_pwp layOk mixed Go.Proofs.Tryz.func32 rfl (by decide) rfl rfl ?_
  repeat refine aa rfl ?_
  refine ab rfl ?_ ?_<;>intro h
  ·clear h
   repeat refine aa rfl ?_
   exact aR rfl rfl rfl
  ·have:=of_decide_eq_false h;omega
 rw[CL,decide_eq_true (by omega),Bool.true_and]
 generalize hF:(l.all (wI st))=F
 refine Ret.of_pwp layOk mixed Go.Proofs.Tryz.func32 rfl (by decide) rfl rfl ?_
 repeat refine aa rfl ?_
 refine ab rfl ?_ ?_<;>intro h
 ·have:=of_decide_eq_true h;omega
 clear h
 repeat refine aa rfl ?_
 refine aq (fun k=>k≤l.length∧((l.drop k).all (wI st))=F) (fun k=>[(0,.sl (l.map eS)),(2,I (st:Nat)),(7,I (k:Nat))]) (fun _=>[]) (fun k=>l.length-k) 0 ⟨Nat.zero_le _,by rw[List.drop_zero];exact hF⟩ ⟨rfl,rfl,rfl,trivial⟩ ?_
 intro k s ⟨hk,hD⟩
 repeat refine aa rfl ?_
 refine ab rfl ?_ ?_<;>intro h
 ·have hlt:k<l.length:=by have:=of_decide_eq_true h;omega
  clear h
  obtain⟨x,hx⟩:=aI hlt
  have hl2:=hll.2 x (List.mem_of_getElem? hx)
  have hr:=jl x.c 3 (by decide)
  have hr2:=pH x.k.M 3 (by decide) (by omega)
  have hw:=iA k
  have hws:IntKind.i64.wrap (((st:Nat):Int)+1)=((st+1:Nat):Int):=by rw[wrap_i64 (by omega) (by omega)];omega
  have hdr:((l.drop k).all (wI st))=(wI st x&&(l.drop (k+1)).all (wI st)):=by
   obtain⟨hl1,h2⟩:=List.getElem?_eq_some_iff.1 hx
   rw[List.drop_eq_getElem_cons hl1,h2,List.all_cons]
  rw[hdr]at hD
  have hsx:wI st x=wI st x:=rfl
  conv at hsx=>rhs;rw[wI]
  generalize wI st x=ok at *
  generalize rq x.c 3=o1 at *
  obtain⟨o2,ho2⟩:∃o2,(x.k.M.all fun y=>rq y 3)=o2:=⟨_,rfl⟩
  rw[ho2]at hsx hr2
  clear ho2
  obtain⟨xx,xc,⟨xS,xM⟩⟩:=x
  simp only at *
  have lS:(xS.map eN).length=xS.length:=by simp
  have lM:(xM.map eR).length=xM.length:=by simp
  by_cases hb1:st<xS.length
  ·rw[decide_eq_true hb1]at hsx
   simp only[Bool.true_or,Bool.not_true]at hsx
   subst hsx
   rw[Bool.false_and]at hD
   subst hD
   repeat refine aa rfl ?_
   refine bT rfl rfl rfl rfl rfl rfl rfl hx rfl ?_
   repeat refine aa rfl ?_
   refine dl rfl rfl rfl ?_ ?_<;>intro h
   ·clear h
    repeat refine aa rfl ?_
    exact aR rfl rfl rfl
   ·exfalso
    have:=of_decide_eq_false h
    simp only[lS]at this
    omega
  rw[decide_eq_false hb1,Bool.false_or]at hsx
  by_cases hb2:st+1<xM.length
  ·rw[decide_eq_true hb2]at hsx
   simp only[Bool.true_or,Bool.not_true]at hsx
   subst hsx
   rw[Bool.false_and]at hD
   subst hD
   repeat refine aa rfl ?_
   refine bT rfl rfl rfl rfl rfl rfl rfl hx rfl ?_
   repeat refine aa rfl ?_
   refine dl rfl rfl rfl ?_ ?_<;>intro h
   ·exfalso
    have:=of_decide_eq_true h
    simp only[lS]at this
    omega
   ·clear h
    repeat refine aa rfl ?_
    rw[hws]
    repeat refine aa rfl ?_
    refine dl rfl rfl rfl ?_ ?_<;>intro h
    ·clear h
     repeat refine aa rfl ?_
     exact aR rfl rfl rfl
    ·exfalso
     have:=of_decide_eq_false h
     simp only[lM]at this
     omega
  rw[decide_eq_false hb2,Bool.false_or]at hsx
  cases o1 with
  |false =>
   simp only[Bool.not_false,Bool.true_or,Bool.not_true]at hsx
   subst hsx
   rw[Bool.false_and]at hD
   subst hD
   repeat refine aa rfl ?_
   refine bT rfl rfl rfl rfl rfl rfl rfl hx rfl ?_
   repeat refine aa rfl ?_
   refine dl rfl rfl rfl ?_ ?_<;>intro h
   ·exfalso
    have:=of_decide_eq_true h
    simp only[lS]at this
    omega
   ·clear h
    repeat refine aa rfl ?_
    rw[hws]
    repeat refine aa rfl ?_
    refine dl rfl rfl rfl ?_ ?_<;>intro h
    ·exfalso
     have:=of_decide_eq_true h
     simp only[lM]at this
     omega
    ·clear h
     repeat refine aa rfl ?_
     refine bT rfl rfl rfl rfl rfl rfl rfl hx rfl ?_
     repeat refine aa rfl ?_
     refine aS rfl rfl rfl hr rfl rfl rfl ?_
     repeat refine aa rfl ?_
     exact aR rfl rfl rfl
  |true =>
   simp only[Bool.not_true,Bool.false_or,Bool.not_not]at hsx
   subst hsx
   cases ok with
   |false =>
    rw[Bool.false_and]at hD
    subst hD
    repeat refine aa rfl ?_
    refine bT rfl rfl rfl rfl rfl rfl rfl hx rfl ?_
    repeat refine aa rfl ?_
    refine dl rfl rfl rfl ?_ ?_<;>intro h
    ·exfalso
     have:=of_decide_eq_true h
     simp only[lS]at this
     omega
    ·clear h
     repeat refine aa rfl ?_
     rw[hws]
     repeat refine aa rfl ?_
     refine dl rfl rfl rfl ?_ ?_<;>intro h
     ·exfalso
      have:=of_decide_eq_true h
      simp only[lM]at this
      omega
     ·clear h
      repeat refine aa rfl ?_
      refine bT rfl rfl rfl rfl rfl rfl rfl hx rfl ?_
      repeat refine aa rfl ?_
      refine aS rfl rfl rfl hr rfl rfl rfl ?_
      repeat refine aa rfl ?_
      refine aS rfl rfl rfl hr2 rfl rfl rfl ?_
      repeat refine aa rfl ?_
      exact aR rfl rfl rfl
   |true =>
    rw[Bool.true_and]at hD
    repeat refine aa rfl ?_
    refine bT rfl rfl rfl rfl rfl rfl rfl hx rfl ?_
    repeat refine aa rfl ?_
    refine dl rfl rfl rfl ?_ ?_<;>intro h
    ·exfalso
     have:=of_decide_eq_true h
     simp only[lS]at this
     omega
    ·clear h
     repeat refine aa rfl ?_
     rw[hws]
     repeat refine aa rfl ?_
     refine dl rfl rfl rfl ?_ ?_<;>intro h
     ·exfalso
      have:=of_decide_eq_true h
      simp only[lM]at this
      omega
     ·clear h
      repeat refine aa rfl ?_
      refine bT rfl rfl rfl rfl rfl rfl rfl hx rfl ?_
      repeat refine aa rfl ?_
      refine aS rfl rfl rfl hr rfl rfl rfl ?_
      repeat refine aa rfl ?_
      refine aS rfl rfl rfl hr2 rfl rfl rfl ?_
      repeat refine aa rfl ?_
      exact⟨k+1,⟨hlt,hD⟩,by omega,rfl,rfl,congrArg I hw,trivial⟩
 ·have hie:k=l.length:=by have:=of_decide_eq_false h;omega
  clear h
  rw[hie,List.drop_length,List.all_nil]at hD
  subst hD
  repeat refine aa rfl ?_
  exact aR rfl rfl rfl
def d6 (b:BR):Bool:=CL b.l 10 4&&rq b.a 3
theorem qI (b:BR) (hll:zQ b.l):Ret Tryz.prog .shared 17 [.agg (eB b)] (.bool (d6 b)):=by
 have h1:=sW b.l hll 10 4 (by decide) (by decide)
 have h2:=jl b.a 3 (by decide)
 rw[d6]
 generalize CL b.l 10 4=x1 at *
 generalize rq b.a 3=x2 at *
 obtain⟨w,a,l⟩:=b
 simp only at *
 cases x1
 ·rw[Bool.false_and]
  refine Ret.of_pwp layOk mixed Go.Proofs.Tryz.func17 rfl (by decide) rfl rfl ?_
  repeat refine aa rfl ?_
  refine aS rfl rfl rfl h1 rfl rfl rfl ?_
  repeat refine aa rfl ?_
  exact aR rfl rfl rfl
 ·rw[Bool.true_and]
  refine Ret.of_pwp layOk mixed Go.Proofs.Tryz.func17 rfl (by decide) rfl rfl ?_
  repeat refine aa rfl ?_
  refine aS rfl rfl rfl h1 rfl rfl rfl ?_
  repeat refine aa rfl ?_
  refine aS rfl rfl rfl h2 rfl rfl rfl ?_
  repeat refine aa rfl ?_
  exact aR rfl rfl rfl
open Go.Proofs Go.RowKit
theorem Ghost.takeD {s:St} {k g t n sz:Nat} {T:TypeId} {rows:List (List PV)} (ho:s.own k=(g,some ⟨T,sz,rows,1⟩)) (hr:s.reg t = .als k g 0 n) (hn:n=rows.length) :
  Ghost s ((s.setOwn k (g+1) none).putR t (.sl rows)):=by
 intro C a w hX ⟨γ,h⟩
 subst hn
 obtain⟨h1,hle,_⟩:=h.drop hX ho
 refine⟨γ,h1.defers,h1.size,fun r=>?_,h1.sites,h1.inj,h1.base,h1.below,h1.top,h1.kept⟩
 show Rep _ (bif Nat.beq r t then _ else(s.setOwn k (g+1) none).reg r) _
 by_cases hrt:r=t
 ·subst hrt
  have hp:=h.regs r
  rw[hr]at hp
  simp only[Nat.beq_refl,cond_true]
  refine .d ?_
  rcases h.als_at hp ho with⟨q1,_,q3,q4⟩|⟨b,cap,cur,q1,q2,q3,q4,q5,q6,q7⟩
  ·have:rows=[]:=(h.sites k _ (by rw[ho])).emp q1
   rw[this,q4]
   exact .sl0 _ _
  ·obtain⟨cur',g1,g2,g3,g4,g5⟩:=h.site_at ho q1 (h.cells_sz ho q1 q3 q6)
   have hb:(ae C γ (s.setOwn k (g+1) none) w).ok b:=by
    have hbase:=h.base k _ b (by rw[ho]) q1
    refine⟨hbase.2,fun hx=>?_,fun k' c' hc' hb'=>?_⟩
    ·have:=hX b hx;omega
    ·by_cases hk':k'=k
     ·subst hk';rw[ac]at hc';cases hc'
     ·rw[au hk']at hc'
      exact hk' (h.inj k' k c' _ b hc' (by rw[ho]) hb' q1)
   rw[q2]
   simp only[Nat.zero_mul]
   refine .sl rows b 0 cap sz (fun i j=>cur'.getD (i*sz+j) undef) hb g2 q4 g4 (fun i j row pv e1 e2=>?_) (fun i j row pv e1 e2=>?_)
   ·obtain⟨u,f1,f2,_⟩:=g5 i j row pv e1 e2
    have g1:w.heap[b]? = some (.cells cur' T (0,0)):=g1
    show w.cell? _=_∧_
    rw[aU g1,Nat.zero_add,f1]
    simp[f1,f2]
   ·obtain⟨u,f1,_,f3⟩:=g5 i j row pv e1 e2
    have hu:cur'.getD (i*sz+j) undef=u:=by simp[f1]
    simp only[hu]
    exact hle.drep f3
 ·rw[a8 hrt];exact h1.regs r
def tj (l:List Int):List RR:=l.map fun z:Int=>ofQ (z:Rat)
set_option maxRecDepth 20000 in
theorem oO (l:List Int) (hl:l.length≤1000000) (hz:∀z∈l,i64 z):Ret Tryz.prog .shared 40 [.sl (l.map eN)] (.sl ((tj l).map eR)):=by
 have hml:(l.map eN).length=l.length:=by simp
 refine Ret.of_pwp layOk mixed Go.Proofs.Tryz.func40 rfl (by decide) rfl rfl ?_
 ((repeat (first|refine aW ?_ | refine bZ ?_ | refine bY ?_ | refine bU ?_));refine aZ ?_)
 refine gL rfl trivial ?_
 ((repeat (first|refine aW ?_ | refine bZ ?_ | refine bY ?_ | refine bU ?_));refine aZ ?_)
 (first|refine ax (eP 26 4 1 rfl rfl ?_)|refine ax (eO 26 4 1 rfl rfl ?_))
 repeat refine aa rfl ?_
 refine aq (fun k=>k≤l.length) (fun k=>[(0,.sl (l.map eN)),(3,.als 3 (k+1) 0 ((tj (l.take k)).map eR).length),(4,I (k:Nat))]) (fun k=>[(3,k+1,⟨26,4,(tj (l.take k)).map eR,1⟩)]) (fun k=>l.length-k) 0 (Nat.zero_le _) ⟨rfl,rfl,rfl,rfl,trivial⟩ ?_
 intro k s hk
 repeat refine aa rfl ?_
 refine ab rfl ?_ ?_<;>intro h
 ·have hlt:k<l.length:=by have:=of_decide_eq_true h;omega
  clear h
  obtain⟨x,hx⟩:=aI hlt
  have hxr:=ke x (hz x (List.mem_of_getElem? hx))
  have hw:=iA k
  have hwl:(tj (l.take k)).length=k:=by rw[tj,List.length_map,List.length_take];omega
  have hrows:(tj (l.take (k+1))).map eR=(tj (l.take k)).map eR++[eR (ofQ (x:Rat))]:=by rw[cu hx,tj,List.map_append,List.map_append];rfl
  repeat refine aa rfl ?_
  refine bT rfl rfl rfl rfl rfl rfl rfl hx rfl ?_
  repeat refine aa rfl ?_
  refine am rfl rfl rfl hxr rfl rfl ?_
  repeat refine aa rfl ?_
  refine ax (bt 1 rfl rfl rfl rfl rfl rfl rfl rfl rfl rfl rfl (by repeat' constructor) rfl ?_)
  repeat refine aa rfl ?_
  refine ax (bQ 1 rfl rfl rfl rfl rfl rfl rfl rfl rfl rfl rfl (by repeat' constructor) (by intro row hr;first|(simp at hr;subst hr;rfl)|simp at hr) rfl rfl (by simp;omega) (by simp;omega) ?_)
  repeat refine aa rfl ?_
  refine⟨k+1,hlt,by omega,rfl,?_,congrArg I hw,?_,trivial⟩
  ·rw[hrows];rfl
  ·rw[hrows];rfl
 ·have hge:k=l.length:=by have:=of_decide_eq_false h;omega
  subst hge
  clear h
  rw[List.take_length]
  repeat refine aa rfl ?_
  exact fF rfl rfl rfl ⟨rfl,rfl,rfl⟩ rfl
theorem rH (x:Int):WeakL ([I x]++zN++[.sl [[I 0]],.sl ((tj [2]).map eR)]) (eS (dA x)):=WeakL.append (WeakL.append (WeakL.refl _) fw) (WeakL.refl _)
theorem ym (x:Int):WeakL ([I x]++zN++[.sl [[I 0],[I 10]],.sl ((tj [5,0]).map eR)]) (eS (jp x)):=WeakL.append (WeakL.append (WeakL.refl _) fw) (WeakL.refl _)
theorem o8:∀z∈[(0:Int),1,2,5,10,25,30,40,75,80,100],i64 z:=by
 intro z hz
 simp at hz
 rcases hz with rfl|rfl|rfl|rfl|rfl|rfl|rfl|rfl|rfl|rfl|rfl<;>exact⟨by decide,by decide⟩
theorem mW (x:Int):Ret Tryz.prog .shared 38 [I x] (.agg (eS (dA x))):=by
 have h1:=oO [2] (by simp) (fun z hz=>o8 z (by simp at hz;subst hz;simp))
 refine Ret.weak (r' := .agg ([I x]++zN++[.sl [[I 0]],.sl ((tj [2]).map eR)])) ?_ (WeakL.refl _) (rH x).agg
 generalize (tj [2]).map eR=W at *
 refine Ret.of_pwp layOk mixed Go.Proofs.Tryz.func38 rfl (by decide) rfl rfl ?_
 repeat refine aa rfl ?_
 refine ax (bt 0 rfl rfl rfl rfl rfl rfl rfl rfl rfl rfl rfl (by repeat' constructor) rfl ?_)
 repeat refine aa rfl ?_
 refine br rfl rfl (dx rfl rfl rfl rfl rfl rfl rfl rfl rfl rfl (by repeat' constructor) rfl) ?_
 repeat refine aa rfl ?_
 refine am rfl rfl rfl h1 rfl rfl ?_
 repeat refine aa rfl ?_
 exact aG rfl rfl rfl
theorem tS (x:Int):Ret Tryz.prog .shared 39 [I x] (.agg (eS (jp x))):=by
 have h1:=oO [5,0] (by simp) (fun z hz=>o8 z (by simp at hz;rcases hz with rfl|rfl<;>simp))
 refine Ret.weak (r' := .agg ([I x]++zN++[.sl [[I 0],[I 10]],.sl ((tj [5,0]).map eR)])) ?_ (WeakL.refl _) (ym x).agg
 generalize (tj [5,0]).map eR=W at *
 refine Ret.of_pwp layOk mixed Go.Proofs.Tryz.func39 rfl (by decide) rfl rfl ?_
 repeat refine aa rfl ?_
 refine ax (bt 0 rfl rfl rfl rfl rfl rfl rfl rfl rfl rfl rfl (by repeat' constructor) rfl ?_)
 repeat refine aa rfl ?_
 refine br rfl rfl (dx rfl rfl rfl rfl rfl rfl rfl rfl rfl rfl (by repeat' constructor) rfl) ?_
 repeat refine aa rfl ?_
 refine am rfl rfl rfl h1 rfl rfl ?_
 repeat refine aa rfl ?_
 exact aG rfl rfl rfl
theorem DJ:ofQ (-1/10)=⟨bB (-1),bB 10⟩:=by
 rw[lB]
 have h1:(-1/10:Rat).num = -1:=by decide +kernel
 have h2:(-1/10:Rat).den=10:=by decide +kernel
 rw[h1,h2];rfl
set_option maxRecDepth 20000 in
theorem Cg:Ret Tryz.prog .shared 42 [I (-1),I 10] (.agg (eR (ofQ (-1/10)))):=by
 have h1:=oP (-1) ⟨by decide,by decide⟩
 have h2:=oP 10 ⟨by decide,by decide⟩
 rw[DJ]
 generalize bB (-1)=X at *
 generalize bB 10=Y at *
 refine Ret.of_pwp layOk mixed Go.Proofs.Tryz.func42 rfl (by decide) rfl rfl ?_
 repeat refine aa rfl ?_
 refine aq (fun q:Nat × Nat=>q.1≤10∧q.2≤10∧Nat.gcd q.1 q.2=1) (fun q=>[(0,I (-1)),(1,I 10),(4,.ptr 4 1 0 0),(5,I (q.1:Nat)),(6,I (q.2:Nat))]) (fun _=>[(4,1,⟨26,4,[zN],2⟩)]) (fun q=>q.2) (1,10) ⟨by decide,by decide,by decide⟩ ⟨rfl,rfl,rfl,rfl,rfl,rfl,trivial⟩ ?_
 rintro⟨x,y⟩ s ⟨hx,hy,hg⟩
 simp only at hx hy hg
 dsimp only
 repeat refine aa rfl ?_
 refine ab rfl ?_ ?_<;>intro h
 ·have hy0:0<y:=by have:=of_decide_eq_true h;omega
  clear h
  have hm:=Nat.mod_lt x hy0
  repeat refine aa rfl ?_
  refine bC [] [] (by decide +kernel) ?_
  repeat refine aa rfl ?_
  refine br rfl rfl (QOp.v rfl (show ¬((y:Nat):Int)=0 by omega)) ?_
  rw[j5]
  repeat refine aa rfl ?_
  exact⟨(y,x%y),⟨hy,by simp only;omega,by simp only;rw[Nat.gcd_comm,←Nat.gcd_rec,Nat.gcd_comm];exact hg⟩,hm,rfl,rfl,rfl,rfl,rfl,rfl,trivial⟩
 ·have hy0:y=0:=by have:=of_decide_eq_false h;omega
  subst hy0
  clear h
  rw[Nat.gcd_zero_right]at hg
  subst hg
  repeat refine aa rfl ?_
  refine ak 9 [25,26,27,28,29,30,31,32,33] (by decide +kernel) ?_
  repeat refine aa rfl ?_
  have q1:IntKind.i64.wrap (Int.tdiv (-1) ((1:Nat):Int)) = -1:=by decide
  have q2:IntKind.i64.wrap (Int.tdiv 10 ((1:Nat):Int))=10:=by decide
  refine br rfl rfl (QOp.v rfl (show ¬((1:Nat):Int)=0 by decide)) ?_
  rw[q1]
  repeat refine aa rfl ?_
  refine am rfl rfl rfl h1 rfl rfl ?_
  repeat refine aa rfl ?_
  refine br rfl rfl (QOp.v rfl (show ¬((1:Nat):Int)=0 by decide)) ?_
  rw[q2]
  repeat refine aa rfl ?_
  refine am rfl rfl rfl h2 rfl rfl ?_
  repeat refine aa rfl ?_
  exact aG rfl rfl rfl
theorem oN (z t:Rat):(bd b1).F z t=(0+if z+t*0<0 then 0 else 2*(z+t*0))+if z+t*100<0 then 0 else 2*(z+t*100):=by
 have e:(bd b1).F z t=(0+fQ (dA 0) z t)+fQ (dA 100) z t:=rfl
 rw[e,rG,rG,show((0:Int):Rat)=0 from rfl,show((100:Int):Rat)=100 from rfl]
theorem Ca (z t:Rat):(bd b1).G z t=(if z+t*100<0 then 0 else 2*(z+t*100))*100:=by
 have e:(bd b1).G z t=(0+fQ (dA 0) z t*((0:Int):Rat))+fQ (dA 100) z t*((100:Int):Rat):=rfl
 rw[e,rG,rG,show((0:Int):Rat)=0 from rfl,show((100:Int):Rat)=100 from rfl]
 grind
theorem wU:(bd b1).w=40:=rfl
theorem B9:(bd b1).A=25:=by
 show(ofQ ((25:Int):Rat)).val=25
 rw[ofQ_val];rfl
theorem B_ {z t:Rat} (h:(bd b1).Least z t):(bd b1).E t=(if z+t*100<0 then 0 else 2*(z+t*100))*100-40*25:=by
 rw[Bd.E,Bd.sg_eq h,Bd.e,Ca,wU,B9]
theorem lX {z t:Rat} (h1:(bd b1).F z t=40) (h2:∀z',z'<z→(bd b1).F z' t<40):(bd b1).Least z t:=⟨h1,h2⟩
theorem BD:(bd b1).Least 10 0:=lX (by rw[oN];grind) (fun z' h=>by rw[oN];grind)
theorem Di:(bd b1).Least 20 (-1):=lX (by rw[oN];grind) (fun z' h=>by rw[oN];grind)
theorem Dj:(bd b1).Least (-80) 1:=lX (by rw[oN];grind) (fun z' h=>by rw[oN];grind)
theorem lZ {x:Int} {z t:Rat} (h:0≤z+t*(x:Rat)):kW (dA x).k.s (yQ (dA x) z t) 1=1:=by
 rw[kW,if_pos]
 show((0:Int):Rat)≤RR.zero.val+(z+t*(x:Rat))
 rw[RR.zero_val,show((0:Int):Rat)=0 from rfl]
 grind
theorem uJ {x:Int} {z t:Rat} (h:0<z+t*(x:Rat)):pN (dA x).k.s (yQ (dA x) z t) 1=1:=by
 rw[pN,if_pos]
 show((0:Int):Rat)<RR.zero.val+(z+t*(x:Rat))
 rw[RR.zero_val,show((0:Int):Rat)=0 from rfl]
 grind
theorem um (x:Int):a_ (dA x).k.m 1=2:=by
 rw[a_]
 show(ofQ ((2:Int):Rat)).val=2
 rw[ofQ_val];rfl
theorem uI {i:Nat} (hi:i<2):(bd b1).k ((bd b1).pR 10 0) i=2:=by
 rcases i with _ | _ | i
 ·show a_ (dA 0).k.m (kW (dA 0).k.s (yQ (dA 0) 10 0) 1)=2
  rw[lZ (by grind),um]
 ·show a_ (dA 100).k.m (kW (dA 100).k.s (yQ (dA 100) 10 0) 1)=2
  rw[lZ (by grind),um]
 ·omega
theorem wS:(bd b1).guess 10 0=some (15,-1/10):=by
 have kh:(bd b1).Kh ((bd b1).pR 10 0)=4:=by
  show 0+(bd b1).k ((bd b1).pR 10 0) 0+(bd b1).k ((bd b1).pR 10 0) 1=4
  rw[uI (by decide),uI (by decide)];grind
 have kc:(bd b1).Kc ((bd b1).pR 10 0)=200:=by
  show 0+(bd b1).k ((bd b1).pR 10 0) 0*((0:Int):Rat)+(bd b1).k ((bd b1).pR 10 0) 1*((100:Int):Rat)=200
  rw[uI (by decide),uI (by decide),show((0:Int):Rat)=0 from rfl,show((100:Int):Rat)=100 from rfl];grind
 have kp:(bd b1).Kp ((bd b1).pR 10 0)=20000:=by
  show 0+(bd b1).k ((bd b1).pR 10 0) 0*((0:Int):Rat)*((0:Int):Rat)+(bd b1).k ((bd b1).pR 10 0) 1*((100:Int):Rat)*((100:Int):Rat)=20000
  rw[uI (by decide),uI (by decide),show((0:Int):Rat)=0 from rfl,show((100:Int):Rat)=100 from rfl];grind
 have hF:(bd b1).w-(bd b1).F 10 0=0:=by rw[wU,oN];grind
 have hE : -((bd b1).e 10 0) = -1000:=by rw[Bd.e,Ca,wU,B9];grind
 have hn:Bd.newt 4 200 20000 0 (-1000)=some (5,-1/10):=by
  rw[Bd.newt,if_neg (by decide +kernel)]
  congr 2<;>decide +kernel
 have hb:(bd b1).F (10+5) (0 + -1/10)=(bd b1).w∧(bd b1).G (10+5) (0 + -1/10)=(bd b1).w*(bd b1).A:=by
  rw[oN,Ca,wU,B9]
  constructor<;>grind
 rw[Bd.guess,Bd.tryP,kh,kc,kp,hF,hE,hn]
 dsimp only
 rw[if_pos hb]
 simp only[Option.some.injEq,Prod.mk.injEq]
 constructor<;>grind
theorem Dg:(bd b1).eqQ 1=some (15,-1/10):=by
 have em:(bd b1).E (-1) = -1000:=by rw[B_ Di];grind
 have ep:(bd b1).E 1=3000:=by rw[B_ Dj];grind
 have e0:(bd b1).E 0=1000:=by rw[B_ BD];grind
 have d1:(bd b1).dbl (-1) 1 1=some 1:=by
  rw[Bd.dbl,if_neg]
  rw[show(-1:Rat)*1 = -1 by grind,em];grind
 have d2:(bd b1).dbl 1 1 1=some 1:=by
  rw[Bd.dbl,if_neg]
  rw[show(1:Rat)*1=1 by grind,ep];grind
 have a0:(bd b1).at1 0=some (15,-1/10):=by
  rw[Bd.at1,if_neg (by rw[e0];grind),Bd.sg_eq BD,wS]
 rw[Bd.eqQ,d1,d2]
 dsimp only
 rw[Bd.fst3,a0]
theorem Dh (t:Rat):∃z,(bd b1).w≤(bd b1).F z t:=⟨20,by rw[oN,wU];grind⟩
theorem kP (t:Rat):(kf b1.l t).length≤19:=by
 rw[kf]
 show((li t (dA 0))++((li t (dA 100))++[])).length≤19
 rw[li,li]
 simp[dA]
theorem uK:bm b1.l=[0,100]:=by
 rw[bm]
 have:cx (b1.l.map (·.x))=[0,100]:=List.mergeSort_of_pairwise (by decide)
 rw[this]
 decide
theorem wT {x:Int} {A B:Rat} (hx:x=0∨x=100) (h:A+B*(x:Rat)≠0):rT 15 (-1/10) A B (dA x)=false:=by
 have hy:0<(15:Rat) + -1/10*(x:Rat):=by
  rcases hx with rfl|rfl
  ·rw[show((0:Int):Rat)=0 from rfl];grind
  ·rw[show((100:Int):Rat)=100 from rfl];grind
 have hr:rV (dA x) 15 (-1/10)=2:=by
  show a_ (dA x).k.m (kW (dA x).k.s (yQ (dA x) 15 (-1/10)) 1)=2
  rw[lZ (by grind),um]
 have hl:lV (dA x) 15 (-1/10)=2:=by
  show a_ (dA x).k.m (pN (dA x).k.s (yQ (dA x) 15 (-1/10)) 1)=2
  rw[uJ hy,um]
 rw[rT,decide_eq_false]
 intro hn
 apply hn
 rw[hr,hl]
 rcases Classical.em (0<A+B*(x:Rat)) with g|g
 ·exact .inl ⟨g,by grind⟩
 ·exact .inr ⟨by show A+B*(x:Rat)<0;grind,by grind⟩
theorem zU {A B:Rat} (h:A≠0∨A+B*100≠0):gi b1.l 15 (-1/10) A B=false:=by
 show(rT 15 (-1/10) A B (dA 0)&&(rT 15 (-1/10) A B (dA 100)&&true))=false
 rcases h with h|h
 ·rw[wT (.inl rfl) (by rw[show((0:Int):Rat)=0 from rfl];grind),Bool.false_and]
 ·rw[wT (x:=100) (.inr rfl) (by rw[show((100:Int):Rat)=100 from rfl];exact h),Bool.false_and,Bool.and_false]
theorem uL:eJ b1 15 (-1/10)=false:=by
 rw[eJ,List.any_eq_false]
 intro d hd
 have key:∀A B:Int,(A≠0∨A+B*100≠0)→¬gi b1.l 15 (-1/10) (ofQ (A:Rat)).val (ofQ (B:Rat)).val=true:=by
  intro A B h
  rw[ofQ_val,ofQ_val,zU]
  ·decide
  ·rcases h with h|h
   ·left;exact_mod_cast h
   ·right
    have:(A:Rat)+(B:Rat)*100=((A+B*100:Int):Rat):=by push_cast;rfl
    rw[this];exact_mod_cast h
 rw[dZ,bj,uK]at hd
 simp at hd
 rcases hd with rfl|rfl|rfl|rfl|rfl|rfl
 ·exact key (-0) 1 (by decide)
 ·exact key (-100) 1 (by decide)
 ·exact key 0 (-1) (by decide)
 ·exact key 100 (-1) (by decide)
 ·exact key 1 0 (by decide)
 ·exact key (-1) 0 (by decide)
theorem Cc:Ret Tryz.prog .shared 9 [.agg (eB b1)] (.tup [.agg (jA ⟨ofQ 15,ofQ (-1/10)⟩ [ofQ 30,ofQ 10]),.agg (zN++zN),I 0]):=by
 have hn:=uO lY (Cb.2 ⟨rfl,rfl⟩)
 have h93:=dT b1 lY
 rw[dy,if_neg (by rw[hn.1];decide),List.find?_eq_none.2 (fun r hr=>by rw[hn.2 r hr];decide)]at h93
 have h120:=nJ b1 lY (fun t=>Nat.le_trans (kP t) (by decide)) (fun t=>Ba _ (kP t)) Dh (N:=1) (by decide) Dg
 have va:Va ⟨ofQ 15,ofQ (-1/10)⟩ 15 (-1/10) 4 8:=⟨Vq.ofQ (h:=⟨o7 15 ⟨by decide,by decide⟩⟩),Vq.ofQ (h:=@HQ.div _ _ 4 4 (@HQ.neg _ _ HQ.one) ⟨o7 10 ⟨by decide,by decide⟩⟩)⟩
 have h121:=nR b1 lY ⟨ofQ 15,ofQ (-1/10)⟩ (ha:=va) (by decide)
 rw[uL]at h121
 have h23:=eF b1.l lY.lim.l lY.chkL ⟨ofQ 15,ofQ (-1/10)⟩ (ha:=va) (by decide)
 rw[uH]at h23
 exact ou b1 lY.lim wR h93 _ _ h120 h121 h23
theorem Cf:Ret Tryz.prog .shared 9 [.agg (eB b2)] (.tup [.agg zS,.agg (eA (ga 0)),I 13]):=by
 have h93:=dT b2 BE
 rw[rZ]at h93
 exact jn b2 BE.lim wV _ 13 (by decide) h93
set_option maxRecDepth 20000 in
theorem ny:Ret Tryz.prog .shared 7 [] (.bool true):=by
 have w25:=ke 25 ⟨by decide,by decide⟩
 have w75:=ke 75 ⟨by decide,by decide⟩
 have w0:=ke 0 ⟨by decide,by decide⟩
 have w1:=ke 1 ⟨by decide,by decide⟩
 have s0:=mW 0
 have s1:=mW 100
 have p0:=tS 0
 have p1:=tS 100
 have hs:=Cc
 have hp:=Cf
 have hws:=oO [30,10] (by simp) (fun z hz=>o8 z (by simp at hz;rcases hz with rfl|rfl<;>simp))
 have hq:=Cg
 have e1:=sS [ofQ 30,ofQ 10] (by simp) (fun x hx=>by
  simp at hx
  rcases hx with rfl|rfl
  ·have:=(vI (z:=30) ⟨by decide,by decide⟩).sz
   exact⟨Nat.le_trans this.1 (by decide),Nat.le_trans this.2 (by decide)⟩
  ·have:=(vI (z:=10) ⟨by decide,by decide⟩).sz
   exact⟨Nat.le_trans this.1 (by decide),Nat.le_trans this.2 (by decide)⟩)
 have e2:=mP (p := -1/10) (n:=8) (@HQ.div _ _ 4 4 (@HQ.neg _ _ HQ.one) ⟨o7 10 ⟨by decide,by decide⟩⟩) (by decide)
 have e3:=mP (p:=((0:Int):Rat)) ⟨o7 0 ⟨by decide,by decide⟩⟩ (by decide)
 have e4:=mP (p:=((1:Int):Rat)) ⟨o7 1 ⟨by decide,by decide⟩⟩ (by decide)
 have hb1:eB b1=I 40::(eR (ofQ ((25:Int):Rat))++[.sl [eS (dA 0),eS (dA 100)]]):=rfl
 have hb2:eB b2=I 80::(eR (ofQ ((75:Int):Rat))++[.sl [eS (jp 0),eS (jp 100)]]):=rfl
 rw[hb1]at hs
 rw[hb2]at hp
 rw[show tj [30,10]=[ofQ 30,ofQ 10] from rfl]at hws
 rw[show ga 0=⟨ofQ ((0:Int):Rat),ofQ ((1:Int):Rat)⟩ from rfl]at hp
 have hzA:eA zA=eR RR.zero++eR RR.zero:=rfl
 clear hb1 hb2
 generalize ofQ ((25:Int):Rat)=W25 at *
 generalize ofQ ((75:Int):Rat)=W75 at *
 generalize ofQ ((0:Int):Rat)=W0 at *
 generalize ofQ ((1:Int):Rat)=W1 at *
 generalize ofQ (-1/10:Rat)=WT at *
 generalize ofQ (15:Rat)=W15 at *
 generalize [ofQ (30:Rat),ofQ (10:Rat)]=WF at *
 refine Ret.of_pwp layOk mixed Go.Proofs.Tryz.func7 rfl (by decide) rfl rfl ?_
 ((repeat ((fail_if_success (with_reducible refine aJ 1 ?_));refine cn rfl ?_));refine aB 4 ?_)
 refine am rfl rfl rfl w25 rfl rfl ?_
 refine am rfl rfl rfl s0 rfl rfl ?_
 refine am rfl rfl rfl s1 rfl rfl ?_
 refine ax (bt 1 rfl rfl rfl rfl rfl rfl rfl rfl rfl rfl rfl (by repeat' constructor) rfl ?_)
 refine aW ?_
 refine aK rfl (cU (Ghost.takeD (k:=11) (t:=11) rfl rfl rfl) (AI rfl ⟨trivial,trivial,trivial⟩ ?_))
 refine aD ?_
 refine am rfl rfl rfl hs rfl rfl ?_
 ((repeat ((fail_if_success (with_reducible refine aJ 2 ?_));refine cn rfl ?_));refine aB 4 ?_)
 refine am rfl rfl rfl w75 rfl rfl ?_
 refine am rfl rfl rfl p0 rfl rfl ?_
 refine am rfl rfl rfl p1 rfl rfl ?_
 refine ax (bt 1 rfl rfl rfl rfl rfl rfl rfl rfl rfl rfl rfl (by repeat' constructor) rfl ?_)
 refine aW ?_
 refine aK rfl (cU (Ghost.takeD (k:=21) (t:=21) rfl rfl rfl) (AI rfl ⟨trivial,trivial,trivial⟩ ?_))
 refine aD ?_
 refine am rfl rfl rfl hp rfl rfl ?_
 repeat refine aa rfl ?_
 refine ak 32 [27,28,29,30,31,32,33,34,35,36,37,38,39,40,41,42,43,44,45,46,47,48,49,50,51,52,53,54,55,56,57,58] (by decide +kernel) ?_
 repeat refine aa rfl ?_
 refine br rfl rfl (dx rfl rfl rfl rfl rfl rfl rfl rfl rfl rfl (by repeat' constructor) rfl) ?_
 repeat refine aa rfl ?_
 refine am rfl rfl rfl hws rfl rfl ?_
 repeat refine aa rfl ?_
 refine aS rfl rfl rfl e1 rfl rfl rfl ?_
 repeat refine aa rfl ?_
 refine am rfl rfl rfl hq rfl rfl ?_
 repeat refine aa rfl ?_
 refine aS rfl rfl rfl e2 rfl rfl rfl ?_
 repeat refine aa rfl ?_
 refine am rfl rfl rfl w0 rfl rfl ?_
 repeat refine aa rfl ?_
 refine aS rfl rfl rfl e3 rfl rfl rfl ?_
 repeat refine aa rfl ?_
 refine am rfl rfl rfl w1 rfl rfl ?_
 repeat refine aa rfl ?_
 refine aS rfl rfl rfl e4 rfl rfl rfl ?_
 repeat refine aa rfl ?_
 exact aR rfl rfl rfl
end Go.Pv
namespace Go.Pv
open Go.RowKit Go.ChangeShapes Go.WideShapes Go.ChangeAt
section
variable {H:Type} {enc:TypeId × Value→H} {P:Program} {L:Lay} {w:World} {sp:Nat→Bool} {held:Bool}
def argW (L:Lay) (T:TypeId) (c:PV):Prop:=match L T with
 |some r=>bif r.sh.agg then ∃cs,c = .agg cs∧tyP L 12 T cs else tyP L 12 T [c]
 |none=>False
theorem wQ (hL:fA P L) {base:Nat} {T:TypeId} {v:Value} {d:DataW H} {ps:List MemPlace} (hp:eW L 12 T=true) (h:DataW.Trod enc P w 0 sp held T v d ps) (hok:Value.okWide P w .any base T v):∃c,DRep w (fun b=>b<w.heap.size) c v∧argW L T c:=by
 obtain⟨fuel,h⟩:=h
 obtain⟨pvs,h1,h2⟩:=m8 hL 12 T _ fuel _ hp h
 have hp':=hp
 simp only[eW]at hp
 split at hp
 ·rename_i r hr
  have hfit:=hL T r hr
  have leaf:r.sh.agg=false→(∃c,pvs=[c])→(v.cells.toList.length=1→v.cells=#[v])→∃c,DRep w (fun b=>b<w.heap.size) c v∧argW L T c:=by
   rintro ha ⟨c,rfl⟩ hv
   have hc:=hv (by rw[←h1.1];rfl)
   have hd:=h1.2 0 c v rfl (by rw[hc];rfl)
   refine⟨c,hd.1,?_⟩
   unfold argW
   rw[hr]
   simp only[ha,cond_false]
   exact h2
  have nagg:(∀cs,v ≠ .agg cs)→v.cells=#[v]:=by
   intro h
   cases v<;>first|rfl|exact absurd rfl (h _)
  have hty:∃r',L T=some r'∧_:=h2
  obtain⟨r',hr',hty⟩:=hty
  rw[hr]at hr'
  have hr':=Option.some.inj hr'
  subst hr'
  split at hp
  ·rename_i hs
   rw[hs]at hty
   obtain⟨b,rfl⟩:=hty
   obtain⟨b',rfl⟩:∃b',v = .bool b':=by
    have:=okWide_bool (nb hfit hs) hok;exact this
   exact leaf (by rw[hs];rfl) ⟨_,rfl⟩ (fun _=>rfl)
  ·rename_i k hs
   rw[hs]at hty
   obtain⟨m,rfl,_⟩:=hty
   obtain⟨m',rfl⟩:=okWide_int (j7 hfit hs) hok
   exact leaf (by rw[hs];rfl) ⟨_,rfl⟩ (fun _=>rfl)
  ·rename_i hs
   rw[hs]at hty
   obtain⟨s,rfl,_⟩:=hty
   obtain⟨s',rfl⟩:=okWide_string (iu hfit hs) hok
   exact leaf (by rw[hs];rfl) ⟨_,rfl⟩ (fun _=>rfl)
  ·rename_i e hs
   rw[hs]at hty
   obtain⟨rows,rfl,_⟩:=hty
   obtain⟨a,l,c,rfl⟩:=okWide_slice (fc hfit hs) hok
   exact leaf (by rw[hs];rfl) ⟨_,rfl⟩ (fun _=>rfl)
  ·rename_i fs hs
   obtain⟨fs',hu,_⟩:=nc hfit hs
   obtain⟨cs,rfl,_⟩:=okWide_struct hu hok
   refine⟨.agg pvs,?_,?_⟩
   ·have:=DRep.agg (w:=w) (ok:=fun b=>b<w.heap.size) pvs cs.toList h1.1 (fun i c v e1 e2=>(h1.2 i c v e1 e2).1)
    simpa using this
   ·unfold argW
    rw[hr]
    simp only[hs,Sh.agg,cond_true]
    exact⟨pvs,rfl,h2⟩
  ·cases hp
 ·cases hp
theorem nw (hL:fA P L) {base:Nat}:∀(ts:List TypeId) (vs:List Value) (ds:List (DataW H)) (ps:List MemPlace),ts.all (eW L 12)=true→DataW.TrodAll enc P w 0 sp held ts vs ds ps →
  (∀(j:Nat) t v,ts[j]? = some t→vs[j]? = some v→Value.okWide P w .any base t v) →
  ∃pargs:List PV,pargs.length=vs.length∧ts.length=vs.length∧ds.length=vs.length∧(∀(i:Nat) (c:PV) (v:Value),pargs[i]? = some c→vs[i]? = some v→DRep w (fun b=>b<w.heap.size) c v)∧∀(i:Nat) t c,ts[i]? = some t→pargs[i]? = some c→argW L t c
 |[],vs,ds,ps,_,h,_=>by
  obtain⟨rfl,rfl,_⟩:=trodAll_nil h
  exact⟨[],rfl,rfl,rfl,fun i c v e=>by simp at e,fun i t c e=>by simp at e⟩
 |t::ts,vs,ds,ps,hp,h,hok=>by
  obtain⟨v,vs',d,ds',p,q,rfl,rfl,rfl,h1,h2⟩:=trodAll_cons h
  simp only[List.all_cons,Bool.and_eq_true]at hp
  obtain⟨c,g1,g2⟩:=wQ hL hp.1 h1 (hok 0 t v rfl rfl)
  obtain⟨pargs,e1,e2,e3,e4,e5⟩:=nw hL ts vs' ds' q hp.2 h2 (fun j t v a b=>hok (j+1) t v (by simpa using a) (by simpa using b))
  refine⟨c::pargs,by simp[e1],by simp[e2],by simp[e3],fun i c' v' a b=>?_,fun i t' c' a b=>?_⟩
  ·cases i with
   |zero=>simp at a b;subst a;subst b;exact g1
   |succ i=>exact e4 i c' v' (by simpa using a) (by simpa using b)
  ·cases i with
   |zero=>simp at a b;subst a;subst b;exact g2
   |succ i=>exact e5 i t' c' (by simpa using a) (by simpa using b)
theorem law_stepW [Globs] (hL:fA P L) (hl:laidOutB P=true) {f:FuncId} {fn:Func} {s:ChangeSpec} {ts:List TypeId} {T:TypeId} (hvars:s.vars=[]) (hts:fn.params.toList=ts) (hplain:ts.all (eW L 12)=true)
  (hread:ts.all (fun t=>P.readableRec t&&decide (t<P.types.size))=true) (hres:fn.resultTypes=#[T]) (hT:P.underlying T=some .bool)
  (hspec:∀ds:List (DataW H),ds.length=ts.length→(s.fn H ds).results=[.lit (.bool true)]∧(s.fn H ds).args=ds∧(s.fn H ds).vars=[])
  (law:∀pargs:List PV,pargs.length=ts.length→(∀(i:Nat) t c,ts[i]? = some t→pargs[i]? = some c→argW L t c)→Ret P .shared f pargs (.bool true))
  {W:World} {base:Nat} {args:Array Value} {ds gs:List (DataW H)} {before:List MemPlace} (hval:∀(j:Nat) t v,fn.params[j]? = some t→args[j]? = some v→Value.okWide P W .any base t v)
  (hglob:Globs.glob W) (hW:DataW.Whole enc P fn.params.toList s.vars false W args.toList ds gs before) :
  Calls P f args W fun e W'=>∃v,e = .returned v∧s.post enc P fn false true false false W args v W':=by
 have hW':=hW
 obtain⟨p,q,hA,hV,hpq,hfz,hnd⟩:=hW
 rw[hvars]at hV
 obtain⟨rfl,rfl⟩:=trodVars_none hV
 rw[hts]at hA
 obtain⟨pargs,e1,e2,e3,e4,e5⟩:=nw hL (base:=base) ts _ _ _ hplain hA (fun j t v a b=>hval j t v (by rw[←hts]at a;simpa using a) (by simpa using b))
 have hret:=law pargs (by omega) e5
 have hcall:=hret.2 W (fun _=>False) args.toList hglob (fun b hb=>hb.elim) (by omega) (fun i c v a b=>(e4 i c v a b).weaken fun b hb=>⟨hb,fun h=>h⟩)
 have hargs:args.toList.toArray=args:=by simp
 rw[hargs]at hcall
 refine hcall.mono ?_
 rintro e W' ⟨v,rfl,hb,hd⟩
 refine⟨v,rfl,?_⟩
 have hv:v = .bool true:=by cases hd;rfl
 subst hv
 have hlt:∀x∈p,x.block<W.heap.size:=fun x hx=>by
  have:=hW'.lt x (by rw[hpq];simp[hx])
  simpa using this
 obtain⟨s1,s2,s3⟩:=hspec ds (by omega)
 have hgs:ds++([]:List (DataW H))=ds:=List.append_nil ds
 refine⟨ds,[],before,[],p,[],hW',?_,?_,?_,World.keptBut_mono (fun x hx=>hx.elim) (hb.frame (fun _=>False)),fun h=>by cases h⟩
 ·rw[hgs,s1,hres]
  exact trodAll_mk1 (shut_bool hT true)
 ·rw[hgs,s2,hts]
  exact iH hl hb ts _ _ _ (fun t ht=>by
   have:=List.all_eq_true.1 hread t ht
   simpa using this) hA hlt
 ·rw[hgs,s3,hvars]
  exact rfl
end
end Go.Pv
set_option maxHeartbeats 2000000
namespace Go.Pv
attribute [local irreducible] PWP POps PQuiet PSem ar ao ai ah
open Go.Proofs
theorem fP {α:Type} {f:α→List PV} {p:α→Prop}:∀ {rows:List (List PV)},(∀row∈rows,∃x,row=f x∧p x)→∃l:List α,rows=l.map f∧∀x∈l,p x
 |[],_=>⟨[],rfl,fun x h=>by cases h⟩
 |row::rows,h=>by
  obtain⟨x,rfl,hx⟩:=h row (by simp)
  obtain⟨l,rfl,hl⟩:=fP (rows:=rows) fun r hr=>h r (by simp[hr])
  exact⟨x::l,rfl,fun y hy=>by
   rcases List.mem_cons.1 hy with rfl|hy
   ·exact hx
   ·exact hl y hy⟩
theorem x6 {n:Nat} (h:n≤maxLen):n≤9223372036854775807:=by
 have e:maxLen=9223372036854775807:=by decide
 omega
theorem xg {n:Nat} {cs:List PV} (h:tyP lay.get (n+2) 22 cs):∃l:List UInt16,cs=[.sl (l.map eU)]:=by
 obtain⟨rows,rfl,hr⟩:=CO h rfl
 obtain⟨l,rfl,-⟩:=fP (f:=eU) (p:=fun _=>True) fun row hrow=>by
  obtain⟨m,rfl,h1,h2⟩:=rP (hr row hrow) rfl
  have h1:(0:Int)≤m:=h1
  have h2:m≤(65535:Int):=h2
  refine⟨UInt16.ofNat m.toNat,?_,trivial⟩
  rw[eU,aP]
  congr 2
  omega
 exact⟨l,rfl⟩
theorem BF {n:Nat} {cs:List PV} (h:tyP lay.get (n+3) 24 cs):∃a:RI,cs=eI a:=by
 obtain⟨parts,rfl,hl,hp⟩:=m9 h rfl
 match parts,hl,hp with
 |[p0,p1],_,hp =>
  obtain⟨b,rfl⟩:=zG (hp 0 _ p0 rfl rfl) rfl
  obtain⟨l,rfl⟩:=xg (hp 1 _ p1 rfl rfl)
  exact⟨⟨b,l⟩,rfl⟩
theorem xe {n:Nat} {cs:List PV} (h:tyP lay.get (n+4) 26 cs):∃a:RR,cs=eR a:=by
 obtain⟨parts,rfl,hl,hp⟩:=m9 h rfl
 match parts,hl,hp with
 |[p0,p1],_,hp =>
  obtain⟨a,rfl⟩:=BF (hp 0 _ p0 rfl rfl)
  obtain⟨b,rfl⟩:=BF (hp 1 _ p1 rfl rfl)
  exact⟨⟨a,b⟩,rfl⟩
theorem dec_int {n:Nat} {cs:List PV} (h:tyP lay.get (n+1) 3 cs):∃z:Int,cs=eN z∧i64 z:=by
 obtain⟨m,rfl,h1,h2⟩:=rP h rfl
 exact⟨m,rfl,h1,h2⟩
theorem xf {n:Nat} {cs:List PV} (h:tyP lay.get (n+2) 67 cs):∃l:List Int,cs=[.sl (l.map eN)]∧l.length≤9223372036854775807∧∀z∈l,i64 z:=by
 obtain⟨rows,rfl,hlen,hr⟩:=lN h rfl
 obtain⟨l,rfl,hz⟩:=fP (f:=eN) (p:=i64) fun row hrow=>dec_int (hr row hrow)
 exact⟨l,rfl,by rw[List.length_map]at hlen;exact x6 hlen,hz⟩
theorem Cm {n:Nat} {cs:List PV} (h:tyP lay.get (n+5) 34 cs):∃l:List RR,cs=[.sl (l.map eR)]∧l.length≤9223372036854775807:=by
 obtain⟨rows,rfl,hlen,hr⟩:=lN h rfl
 obtain⟨l,rfl,-⟩:=fP (f:=eR) (p:=fun _=>True) fun row hrow=>by
  obtain⟨a,rfl⟩:=xe (hr row hrow)
  exact⟨a,rfl,trivial⟩
 exact⟨l,rfl,by rw[List.length_map]at hlen;exact x6 hlen⟩
theorem Dq {n:Nat} {cs:List PV} (h:tyP lay.get (n+6) 69 cs):∃c:CR,cs=eC c∧c.S.length≤9223372036854775807∧c.M.length≤9223372036854775807∧∀z∈c.S,i64 z:=by
 obtain⟨parts,rfl,hl,hp⟩:=m9 h rfl
 match parts,hl,hp with
 |[p0,p1],_,hp =>
  obtain⟨S,rfl,h1,h2⟩:=xf (hp 0 _ p0 rfl rfl)
  obtain⟨M,rfl,h3⟩:=Cm (hp 1 _ p1 rfl rfl)
  exact⟨⟨S,M⟩,rfl,h1,h3,h2⟩
theorem Ds {n:Nat} {cs:List PV} (h:tyP lay.get (n+7) 71 cs):∃s:SR,cs=eS s∧(wL s∧s.k.S.length≤9223372036854775807∧s.k.M.length≤9223372036854775807):=by
 obtain⟨parts,rfl,hl,hp⟩:=m9 h rfl
 match parts,hl,hp with
 |[p0,p1,p2],_,hp =>
  obtain⟨x,rfl,hx⟩:=dec_int (hp 0 _ p0 rfl rfl)
  obtain⟨c,rfl⟩:=xe (hp 1 _ p1 rfl rfl)
  obtain⟨k,rfl,h1,h2,h3⟩:=Dq (hp 2 _ p2 rfl rfl)
  exact⟨⟨x,c,k⟩,by simp[eS,eN],⟨hx,h3⟩,h1,h2⟩
theorem Dr {n:Nat} {cs:List PV} (h:tyP lay.get (n+8) 27 cs):∃l:List SR,cs=[.sl (l.map eS)]∧zQ l∧nt l:=by
 obtain⟨rows,rfl,hlen,hr⟩:=lN h rfl
 obtain⟨l,rfl,hz⟩:=fP (f:=eS) (p:=fun s=>wL s∧s.k.S.length≤9223372036854775807∧s.k.M.length≤9223372036854775807) fun row hrow=>Ds (hr row hrow)
 exact⟨l,rfl,⟨by rw[List.length_map]at hlen;exact x6 hlen,fun s hs=>(hz s hs).2⟩,fun s hs=>(hz s hs).1⟩
structure ArgB (b:BR):Prop where
 w:i64 b.w
 len:zQ b.l
 data:nt b.l
theorem dec_B {c:PV} (h:argW lay.get 29 c):∃b:BR,c = .agg (eB b)∧ArgB b:=by
 obtain⟨cs,rfl,h⟩:∃cs,c = .agg cs∧tyP lay.get 12 29 cs:=h
 obtain⟨parts,rfl,hl,hp⟩:=m9 h rfl
 match parts,hl,hp with
 |[p0,p1,p2],_,hp =>
  obtain⟨w,rfl,hw⟩:=dec_int (hp 0 _ p0 rfl rfl)
  obtain⟨a,rfl⟩:=xe (hp 1 _ p1 rfl rfl)
  obtain⟨l,rfl,h1,h2⟩:=Dr (hp 2 _ p2 rfl rfl)
  exact⟨⟨w,a,l⟩,by simp[eB,eN],hw,h1,h2⟩
end Go.Pv
