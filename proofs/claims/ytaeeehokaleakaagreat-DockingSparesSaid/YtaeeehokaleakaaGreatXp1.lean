/- Texts of one hand, gathered: TpA, TpB. -/
import Derived.Test.YtaeeehokaleakaaGreatBc1
set_option maxRecDepth 20000
set_option linter.unusedSectionVars false
set_option linter.unusedSimpArgs false
set_option linter.unusedVariables false
set_option linter.unnecessarySimpa false
set_option maxHeartbeats 2000000
namespace Go.Pv
attribute [local irreducible] PWP POps PQuiet PSem aE aw aj ak
open Go.Proofs
def acv (n:Nat)(V:(Bool × Int × List (Int × Int)) × Int)(W:Nat->(Bool × Int × List (Int × Int)) × Int):List Int × Int :=
 if V.2=0 then(if V.1.1=true then(aa0 (aam W) n,0) else([],18)) else([],V.2)
theorem aaM (K:Nat->Bool)(n:Nat):aa0 K (n+1)=if K n=true then aa0 K n++[((n:Nat):Int)] else aa0 K n:=by rw[aa0]
theorem abp (d:DKR)(c:List Int)(V:(Bool × Int × List (Int × Int)) × Int)(W:Nat->(Bool × Int × List (Int × Int)) × Int)
  (h0:aU 33 [.agg (fv d),.sl (c.map eN)] (.tup [.agg (eV V.1),I V.2])) (hb:V.2=0->d.bl.length<=5)
  (hD:V.2=0->∀i:Nat,i<d.bl.length->aU 92 [.agg (fv d),I i] (.tup [.agg (fv (aai d i)),I 0]))
  (hW:V.2=0->∀i:Nat,aU 33 [.agg (fv (aai d i)),.sl (c.map eN)] (.tup [.agg (eV (W i).1),I (W i).2])) :
  aU 32 [.agg (fv d),.sl (c.map eN)] (.tup [.sl ((acv d.bl.length V W).1.map eN),I (acv d.bl.length V W).2]):=by
 have hmb:(d.bl.map eBk).length=d.bl.length:=ap;obtain⟨X,hX⟩:∃X,X=acv d.bl.length V W:=⟨_,O⟩;rw[<-hX];rw[acv]at hX;obtain⟨⟨Vo,Vi,Vl⟩,Ve⟩:=V;simp only at *
 by_cases he:Ve=0
 .subst he;rw[if_pos O]at hX;specialize hb O;specialize hD O;specialize hW O;cases Vo with
  |false =>
   rw[if_neg Y]at hX;subst hX;clear hD hW;obtain⟨s,den,bl,zn,gm,oh⟩:=d;refine aD Proofs.Tryz.func32 ?_;refine G h0 ?_
   (repeat ((fail_if_success (with_reducible refine fh ?_));refine wV O ?_))
   refine ao (Ghost.nilfs (t:=4) O) ?_;exact cA
  |true =>
   rw[if_pos O]at hX;obtain⟨s,den,bl,zn,gm,oh⟩:=d;simp only at *
   refine aD Proofs.Tryz.func32 ?_;refine G h0 ?_;refine cV 7 ?_;refine ao (Ghost.nilreg (k:=1003) (t:=8) 3 1 1 O O) ?_;refine H ?_;rw[hmb];refine aQ [(1,.sl (c.map eN)),(2,.ptr 2 1 0 0),(8,.als 1003 1 0 0),(28,I bl.length),(29,I ((0:Nat):Int))] [(2,1,⟨56,14,[fv ⟨s,den,bl,zn,gm,oh⟩],2⟩),(1003,1,⟨3,1,[],1⟩)] ah ?_;intro s0;refine ai (fun i:Nat=>i<=bl.length) (fun i=>[(1,.sl (c.map eN)),(2,.ptr 2 1 0 0),(8,.als 1003 (1+(aa0 (aam W) i).length) 0 ((aa0 (aam W) i).map eN).length),(28,I bl.length),(29,I (i:Nat))])
    (fun i=>[(2,1,⟨56,14,[fv ⟨s,den,bl,zn,gm,oh⟩],2⟩),(1003,1+(aa0 (aam W) i).length,⟨3,1,(aa0 (aam W) i).map eN,1⟩)]) (fun i=>bl.length-i) 0 (aP _) ah ?_
   intro i s1 hi;refine D ?_ ?_<;>intro h
   .have hlt:i<bl.length:=cw h;clear h;have hd:=hD i hlt;have hj:=hW i;rw[aai]at hd hj;simp only at hd hj;have hlen:=aac (aam W) i;have hll:((aa0 (aam W) i).map eN).length<=5:=by rw[aF];omega
    have hs:=aaM (aam W) i;rw[aam]at hs;have hw:=dN i;generalize aa0 (aam W) i=P0,W i=Y0 at *
    obtain⟨⟨Yo,Yi,Yl⟩,Ye⟩:=Y0;simp only at *
    refine G hd ?_;refine G hj ?_;refine H ?_;by_cases h1:Ye=0
    .subst h1;cases Yo with
     |true =>
      rw[if_pos (show(decide ((0:Int)=0)&&true)=true by decide)]at hs;have hr:(aa0 (aam W) (i+1)).map eN=P0.map eN++[[I (i:Nat)]]:=by rw[hs,bj];rfl
      have hr2:1+(aa0 (aam W) (i+1)).length=1+P0.length+1:=by rw[hs,bQ];rfl
      generalize P0.map eN=R0 at *
      refine H ?_;refine aC (bb 1 O O O O O O O O O O O ah O ?_);refine H ?_;refine aC (bO 1 O O O O O O O O O O O ah fW O O aS aS ?_);refine H ?_;refine⟨i+1,hlt,J,O,O,?_,O,congrArg I hw,O,?_,bh⟩
      .rw[hr,hr2];rfl
      .rw[hr,hr2];rfl
     |false =>
      rw[if_neg (show ¬(decide ((0:Int)=0)&&false)=true by decide)]at hs;refine H ?_;exact⟨i+1,hlt,J,O,O,by rw[hs];rfl,O,congrArg I hw,O,by rw[hs];rfl,bh⟩
    .rw[if_neg (by simp[h1])]at hs;rw[decide_eq_false h1];refine H ?_;exact⟨i+1,hlt,J,O,O,by rw[hs];rfl,O,congrArg I hw,O,by rw[hs];rfl,bh⟩
   .have hie:i=bl.length:=co h;clear h;subst hie;subst hX
    (repeat ((fail_if_success (with_reducible refine fh ?_));refine wV O ?_))
    refine ao (Ghost.takeD (k:=1003) (t:=4) O O O) ?_;exact cA
 .rw[if_neg he]at hX;subst hX;clear hb hD hW;obtain⟨s,den,bl,zn,gm,oh⟩:=d;refine aD Proofs.Tryz.func32 ?_;refine G h0 ?_;refine H ?_;rw[decide_eq_false he]
  (repeat ((fail_if_success (with_reducible refine fh ?_));refine wV O ?_))
  refine ao (Ghost.nilfs (t:=4) O) ?_;exact cA
theorem dec_Cr {c:PV}(h:argW lay.get 57 c):∃l:List Int,c=.sl (l.map eN)/\l.length<=9223372036854775807:=by
 obtain⟨l,e,hl,-⟩:=Bw (n:=10) (show o0 lay.get 12 57 [c] from h);cases e;exact⟨l,O,hl⟩
set_option maxHeartbeats 4000000 in
theorem spares_law (d:DKR)(hl:d.Len)(c:List Int)(hcl:c.length<=9223372036854775807):aU 6 [.agg (fv d),.sl (c.map eN)] (.bool true):=by
 have a:=DC;have s:=NQ d;have hml:(c.map eN).length=c.length:=ap;cases hS:Mp d with
 |false =>
  rw[hS]at s;refine aD Proofs.Tryz.func6 ?_;refine ax a ?_;refine ax s ?_;exact kU
 |true =>
 rw[hS]at s;by_cases hbig:210<c.length
 .refine aD Proofs.Tryz.func6 ?_;refine ax a ?_;refine ax s ?_;refine H ?_;rw[hml,decide_eq_true (show(3:Int)<(c.length:Int) by omega)];refine H ?_;rw[hml,decide_eq_false (show ¬(c.length:Int)<=200 by omega)];refine H ?_;rw[hml,decide_eq_true (show(210:Int)<(c.length:Int) by omega)];exact kU
 by_cases hmid:3<c.length/\c.length<=200
 .refine aD Proofs.Tryz.func6 ?_;refine ax a ?_;refine ax s ?_;refine H ?_;rw[hml,decide_eq_true (show(3:Int)<(c.length:Int) by omega)];refine H ?_;rw[hml,decide_eq_true (show(c.length:Int)<=200 by omega)];exact kU
 have sm:=Pe hS;have ok:=sm.ok hl;have cp:=Hf d sm;obtain⟨V,W,h0,hVW⟩:=abO hl hS c J;have hD:V.2=0->∀i:Nat,i<d.bl.length->aU 92 [.agg (fv d),I i] (.tup [.agg (fv (aai d i)),I 0]):=fun e i hi =>
  ac3 d ok (bK sm.st Y) (bK sm.it Y) (bK sm.bl Y) (bK sm.zn Y) (fun t ht=>⟨bK (sm.L t ht).1 Y,bK (sm.L t ht).2 Y⟩) (fun b hb=>yV (sm.b b hb) Y) (hVW e).1 i hi
 have p1:=abp d c V W h0 (fun e=>(hVW e).2.2.1) hD fun e=>(hVW e).2.2.2;have hR:∀i:Nat,i<d.bl.length->aU 34 [.agg (fv d),I i] (.agg (fv (aai d i))):=fun i hi=>abn d (bK sm.bl Y) i hi;have hmb:(d.bl.map eBk).length=d.bl.length:=ap;clear hD sm ok;obtain⟨X,hX⟩:∃X,X=acv d.bl.length V W:=⟨_,O⟩;rw[<-hX]at p1;rw[acv]at hX;obtain⟨⟨Vo,Vi,Vl⟩,Ve⟩:=V;simp only at *
 by_cases he:Ve=0
 .subst he;rw[if_pos O]at hX;obtain⟨-,hc2,hb5,hW⟩:=hVW O;clear hVW;cases Vo with
  |false =>
   rw[if_neg Y]at hX;subst hX;clear hW hR;obtain⟨s',den,bl,zn,gm,oh⟩:=d;refine aD Proofs.Tryz.func6 ?_;refine ax a ?_;refine ax s ?_;refine H ?_;rw[hml,decide_eq_false (show ¬(3:Int)<(c.length:Int) by omega)];refine H ?_;rw[hml,decide_eq_false (show ¬(210:Int)<(c.length:Int) by omega)];refine G cp ?_;refine G p1 ?_;refine G h0 ?_;exact kU
  |true =>
   rw[if_pos O]at hX;obtain⟨s',den,bl,zn,gm,oh⟩:=d;simp only at *
   have hlen:=aac (aam W) bl.length;have h35:=abG (aa0 (aam W) bl.length) J;subst hX;generalize hL:(aa0 (aam W) bl.length).map eN=L at *
   refine aD Proofs.Tryz.func6 ?_;refine ax a ?_;refine ax s ?_;refine H ?_;rw[hml,decide_eq_false (show ¬(3:Int)<(c.length:Int) by omega)];refine H ?_;rw[hml,decide_eq_false (show ¬(210:Int)<(c.length:Int) by omega)];refine G cp ?_;refine G p1 ?_;refine G h0 ?_;refine cV 12 ?_;refine ao (Ghost.nilreg (k:=1003) (t:=9) 3 1 1 O O) ?_;refine H ?_;refine aQ [(1,.sl (c.map eN)),(2,.ptr 2 1 0 0),(5,.sl L),(6,I 0),(9,.als 1003 1 0 0),(10,I ((0:Nat):Int))] [(2,1,⟨56,14,[fv ⟨s',den,bl,zn,gm,oh⟩],2⟩),(1003,1,⟨3,1,[],1⟩)] ah ?_;intro s0;refine ai (fun i:Nat=>i<=bl.length) (fun i=>[(1,.sl (c.map eN)),(2,.ptr 2 1 0 0),(5,.sl L),(6,I 0),(9,.als 1003 (1+(aa0 (aam W) i).length) 0 ((aa0 (aam W) i).map eN).length),(10,I (i:Nat))])
    (fun i=>[(2,1,⟨56,14,[fv ⟨s',den,bl,zn,gm,oh⟩],2⟩),(1003,1+(aa0 (aam W) i).length,⟨3,1,(aa0 (aam W) i).map eN,1⟩)]) (fun i=>bl.length-i) 0 (aP _) ah ?_
   intro i s1 hi;refine H ?_;rw[hmb];refine aV O ?_ ?_<;>intro h
   .have hlt:i<bl.length:=cw h;clear h;have hd:=hR i hlt;have hj:=hW i;rw[aai]at hd hj;simp only at hd hj;have hlen2:=aac (aam W) i;have hll:((aa0 (aam W) i).map eN).length<=5:=by rw[aF];omega
    have hs:=aaM (aam W) i;rw[aam]at hs;have hw:=dN i;generalize aa0 (aam W) i=P0,W i=Y0 at *
    obtain⟨⟨Yo,Yi,Yl⟩,Ye⟩:=Y0;simp only at *
    refine G hd ?_;refine G hj ?_;refine H ?_;by_cases h1:Ye=0
    .subst h1;cases Yo with
     |true =>
      rw[if_pos (show(decide ((0:Int)=0)&&true)=true by decide)]at hs;have hr:(aa0 (aam W) (i+1)).map eN=P0.map eN++[[I (i:Nat)]]:=by rw[hs,bj];rfl
      have hr2:1+(aa0 (aam W) (i+1)).length=1+P0.length+1:=by rw[hs,bQ];rfl
      generalize P0.map eN=R0 at *
      refine H ?_;refine aC (bb 1 O O O O O O O O O O O ah O ?_);refine H ?_;refine aC (bO 1 O O O O O O O O O O O ah fW O O aS aS ?_);refine H ?_;refine⟨i+1,hlt,J,O,O,O,O,?_,congrArg I hw,O,?_,bh⟩
      .rw[hr,hr2];rfl
      .rw[hr,hr2];rfl
     |false =>
      rw[if_neg (show ¬(decide ((0:Int)=0)&&false)=true by decide)]at hs;refine H ?_;exact⟨i+1,hlt,J,O,O,O,O,by rw[hs];rfl,congrArg I hw,O,by rw[hs];rfl,bh⟩
    .rw[if_neg (by simp[h1])]at hs;rw[decide_eq_false h1];refine H ?_;exact⟨i+1,hlt,J,O,O,O,O,by rw[hs];rfl,congrArg I hw,O,by rw[hs];rfl,bh⟩
   .have hie:i=bl.length:=co h;clear h;subst hie;refine ao (Ghost.takeD (k:=1003) (t:=9) O O O) ?_;rw[hL];refine ax h35 ?_;exact kU
 .rw[if_neg he]at hX;subst hX;clear hVW hR;obtain⟨s',den,bl,zn,gm,oh⟩:=d;by_cases h3:3<c.length
  .refine aD Proofs.Tryz.func6 ?_;refine ax a ?_;refine ax s ?_;refine H ?_;rw[hml,decide_eq_true (show(3:Int)<(c.length:Int) by omega)];refine H ?_;rw[hml,decide_eq_false (show ¬(c.length:Int)<=200 by omega)];refine H ?_;rw[hml,decide_eq_false (show ¬(210:Int)<(c.length:Int) by omega)];refine G cp ?_;refine G p1 ?_;refine G h0 ?_;refine H ?_;rw[decide_eq_false he];refine H ?_;rw[decide_eq_true (show Ve=Ve from O)];exact kU
  .refine aD Proofs.Tryz.func6 ?_;refine ax a ?_;refine ax s ?_;refine H ?_;rw[hml,decide_eq_false (show ¬(3:Int)<(c.length:Int) by omega)];refine H ?_;rw[hml,decide_eq_false (show ¬(210:Int)<(c.length:Int) by omega)];refine G cp ?_;refine G p1 ?_;refine G h0 ?_;refine H ?_;rw[decide_eq_false he];refine H ?_;rw[decide_eq_true (show Ve=Ve from O)];exact kU
end Go.Pv
