/- Texts of one hand, gathered: DlFa, DlJ, DmB. -/
import Derived.Test.YtaeeehokaleakaaGreatBm4
set_option maxRecDepth 20000
set_option linter.unusedSectionVars false
set_option linter.unusedSimpArgs false
set_option linter.unusedVariables false
set_option linter.unnecessarySimpa false
set_option maxHeartbeats 2000000
namespace Go.Pv
attribute [local irreducible] PWP POps PQuiet PSem XThen XBlock RetPost InlPost
open Go.Proofs
def Jk (s:SHP):List LR:=s.light::s.it
def mQ (s:SHP):Rat:=(sM (Jk s):Rat)
def JD (s:SHP)(p:Rat):Rat:=mQ s-p
structure StbOk (s:SHP) (p me:Rat) (k:Nat):Prop where
 ld:∀w∈Jk s,OkW w
 m:1<=sM (Jk s)
 n:(Jk s).length<=61
 hp:hq p k
 hme:hq me 400000
 hk:k<=1000000
 p0:0<=p
 l0:0<JD s p
theorem up_hq {d:DKR}{p z t:Rat}(h:Slim d p)(hs:Stood d p z t):hq (iG ((vQ d p z t).take d.bl.length)) 600000/\hq (iG ((vQ d p z t).drop d.bl.length)) 600000:=by
 have hl:=Il d p z t;have h5:=h.bl;have h6:=h.st;have h1:=EC (N:=50000) (l:=(vQ d p z t).take d.bl.length) fun q hq=>Hn h hs q (gp hq);have h2:=EC (N:=50000) (l:=(vQ d p z t).drop d.bl.length) fun q hq=>Hn h hs q (ky hq);rw[bI]at h1;rw[fR]at h2;exact⟨ep h1 J,ep h2 J⟩
theorem mass_split {d:DKR}{p z t:Rat}(hs:Stood d p z t):iG ((vQ d p z t).take d.bl.length)+iG ((vQ d p z t).drop d.bl.length)=(sM (d.s.light::d.s.it):Rat):=by
 rw[yy,E5 hs.bal];rfl
theorem weigh_all {d:DKR}{p:Rat}(hl:d.Len)(h:Slim d p):bb 53 [.agg (jT d.s),.sl ((gj d p).map eS)] (.tup [.agg (eB (if df (dB d p)=0 then dB d p else uX)),I (df (dB d p))]):=by
 obtain⟨hk,hd,hf⟩:=h.bd;have h12:(gj d p).length<=1000:=by rw[mj];have:=h.st;have:=h.bl;omega
 have hM:∀x∈gj d p,x.k.M.length<=1000:=fun x hx=>by
  rcases iI hx with⟨b,-,rfl⟩|⟨t,ht,rfl⟩
  .show 1<=1000;decide
  .show(wV (kY d) t).length<=1000;rw[Ef];have:=(hk.st t ht).h;have:=h.L t ht;omega
 have:=ER d.s hl.s (qc hf) (gj d p) (sW h) (by rw[DA];exact sW h) h12 hM;rw[DA]at this;exact this
theorem cloneI_ret (F:List Int)(hl:F.length<=1000000):bb 111 [.sl (F.map eN)] (.sl (F.map eN)):=by
 refine ay Proofs.Tryz.func111 ?_
 (refine dN 1 ?_;refine aD 1 ?_)
 refine g_ O ?_;refine bg ?_;refine aU O (kT dY O O O (fun h0=>?_) ?_)
 .rw[h0];refine aE ?_
  (repeat ((fail_if_success (with_reducible refine fY ?_));refine Ab O ?_))
  refine ax (Ghost.nilfs (t:=2) O) ?_;exact cy
 .refine aE ?_;refine H ?_;refine aC (b8 1 O O O O O O O O O O O ak O ?_);refine H ?_;refine aC (cQ 1 O O O O O O O O O O O ak (by intro row hr;obtain⟨p,_,rfl⟩:=bF.1 hr;rfl) O O aX aX ?_)
  (repeat ((fail_if_success (with_reducible refine fY ?_));refine Ab O ?_))
  refine ax (Ghost.takeD (k:=5) (t:=2) O O O) ?_;exact cy
theorem cloneL_ret (F:List LR)(hl:F.length<=1000000):bb 112 [.sl (F.map eLd)] (.sl (F.map eLd)):=by
 refine ay Proofs.Tryz.func112 ?_
 (refine dN 1 ?_;refine aD 1 ?_)
 refine g_ O ?_;refine bg ?_;refine aU O (kT dY O O O (fun h0=>?_) ?_)
 .rw[h0];refine aE ?_
  (repeat ((fail_if_success (with_reducible refine fY ?_));refine Ab O ?_))
  refine ax (Ghost.nilfs (t:=2) O) ?_;exact cy
 .refine aE ?_;refine H ?_;refine aC (b8 1 O O O O O O O O O O O ak O ?_);refine H ?_;refine aC (cQ 1 O O O O O O O O O O O ak (by intro row hr;obtain⟨p,_,rfl⟩:=bF.1 hr;rfl) O O aX aX ?_)
  (repeat ((fail_if_success (with_reducible refine fY ?_));refine Ab O ?_))
  refine ax (Ghost.takeD (k:=5) (t:=2) O O O) ?_;exact cy
end Go.Pv
